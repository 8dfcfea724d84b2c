/-
  A part of the proof of the claim that this folder bears.
-/
import Derived.Test.YtnhippfllgnngaaPAI
import Derived.Test.YtnhippfllgnngaaPAE
/- The text SH4. -/
set_option linter.unusedVariables false
set_option linter.unusedSimpArgs false
set_option maxRecDepth 10000
namespace Go.Proofs.Ytnhippfllgnngaa
open Go Go.KK Dm

theorem s_Rows {L : List Asn} {a la : Option Addr} {n cap ln lc : Nat} {rs : List Rg} {hs : List Hdr} {xss : List (List Int)} [SlIn rgE L a rs] [SlIn hE L la hs] [RowsR intE L hs xss] (hn : n = rs.length) (hl : ln = hs.length) :
    CallS Try.prog 38 [.agg #[.slice a n cap, .slice la ln lc]].toArray L (fun v M => ∃ a' c' a'' c'', v = .tuple #[.slice a' (rowsV rs xss).1.length c', .slice a'' (rowsV rs xss).2.1.length c'', .int .i64 (rowsV rs xss).2.2] ∧ M = sl intE a' c' (rowsV rs xss).1 :: sl intE a'' c'' (rowsV rs xss).2.1 :: L) := by
  subst hn
  subst hl
  refine CallS.fact (fun h s => RowsR.len (E := intE) (hs := hs) (xss := xss) s) fun hnn => ?_
  have hhl : hs.length = xss.length := rows_len hnn
  refine CallS.ent ?_
  refine CallS.enter Try.func38 rfl rfl rfl rfl rfl ?_
  refine J.seq rfl ?_
  refine J.region rfl ?_
  refine JO.eff rfl rfl rfl (Eff.box (cs := [_, _]) rfl rfl) ?_
  rintro _ _ ⟨b1, rfl, rfl⟩
  refine JO.pur rfl rfl rfl (Pur.assign rfl) ?_
  refine JO.pur rfl rfl rfl (Pur.assign rfl) ?_
  refine JO.pur rfl rfl rfl (Pur.assign rfl) ?_
  refine JO.nil ?_
  refine J.seq rfl ?_
  refine J.block rfl ?_
  refine J.seq rfl ?_
  refine J.region rfl ?_
  refine JO.pur rfl rfl rfl (Pur.loadA rfl rfl rfl CellsIn.blk) ?_
  refine JO.effR rfl rfl rfl (Eff.call rfl (s_Valid (rs := rs) (hs := hs) (xss := xss) rfl rfl)) ?_
  refine JO.pur rfl rfl rfl (Pur.not rfl) ?_
  refine JO.pur rfl rfl rfl (Pur.assign rfl) ?_
  refine JO.nil ?_
  refine J.splitB 11 rfl (fun h11 => ?_) (fun h11 => ?_)
  · try simp only [decide_eq_true_eq, decide_eq_false_iff_not, Bool.not_eq_true', Bool.not_eq_false', Bool.and_eq_true, Bool.or_eq_true, Bool.and_eq_false_iff, Bool.or_eq_false_iff, Option.isNone_some, Option.isSome_some, Option.isNone_none, Option.isSome_none, Int.not_lt, Int.not_le, beq_iff_eq, beq_eq_false_iff_ne, bne_iff_ne, ne_eq, Bool.not_not, Decidable.not_not] at h11
    have hns : ¬ okS rs xss := h11
    refine J.condT rfl rfl ?_
    refine J.seq rfl ?_
    refine J.region rfl ?_
    refine JO.pur rfl rfl rfl (Pur.assign rfl) ?_
    refine JO.pur rfl rfl rfl (Pur.assign rfl) ?_
    refine JO.pur rfl rfl rfl (Pur.assign rfl) ?_
    refine JO.nil ?_
    refine J.ret rfl rfl ?_
    have hv : rowsV rs xss = ([], [], 50) := by unfold rowsV; rw [if_pos hns]
    refine ⟨_, _, ⟨none, 0, none, 0, rfl, rfl⟩, by rw [hv]; rfl, fun h s => ?_⟩
    rw [hv]; exact sl_nil_new (sl_nil_new (SubC.out h s))
  · try simp only [decide_eq_true_eq, decide_eq_false_iff_not, Bool.not_eq_true', Bool.not_eq_false', Bool.and_eq_true, Bool.or_eq_true, Bool.and_eq_false_iff, Bool.or_eq_false_iff, Option.isNone_some, Option.isSome_some, Option.isNone_none, Option.isSome_none, Int.not_lt, Int.not_le, beq_iff_eq, beq_eq_false_iff_ne, bne_iff_ne, ne_eq, Bool.not_not, Decidable.not_not] at h11
    have hs0 : okS rs xss := h11
    refine J.condF rfl rfl ?_
    refine J.seq rfl ?_
    refine J.region rfl ?_
    refine JO.pur rfl rfl rfl (Pur.fieldAddr rfl) ?_
    refine JO.pur rfl rfl rfl (Pur.fieldAddr rfl) ?_
    refine JO.pur rfl rfl rfl (Pur.load rfl (CellIn.blk rfl)) ?_
    refine JO.pur rfl rfl rfl (Pur.len rfl) ?_
    refine JO.pur rfl rfl rfl (Pur.neqI rfl rfl) ?_
    refine JO.pur rfl rfl rfl (Pur.assign rfl) ?_
    refine JO.nil ?_
    refine J.splitB 15 rfl (fun h15 => ?_) (fun h15 => ?_)
    · try simp only [decide_eq_true_eq, decide_eq_false_iff_not, Bool.not_eq_true', Bool.not_eq_false', Bool.and_eq_true, Bool.or_eq_true, Bool.and_eq_false_iff, Bool.or_eq_false_iff, Option.isNone_some, Option.isSome_some, Option.isNone_none, Option.isSome_none, Int.not_lt, Int.not_le, beq_iff_eq, beq_eq_false_iff_ne, bne_iff_ne, ne_eq, Bool.not_not, Decidable.not_not] at h15
      have hl2 : rs.length ≠ 2 := by omega
      refine J.condT rfl rfl ?_
      refine J.seq rfl ?_
      refine J.region rfl ?_
      refine JO.pur rfl rfl rfl (Pur.assign rfl) ?_
      refine JO.pur rfl rfl rfl (Pur.assign rfl) ?_
      refine JO.pur rfl rfl rfl (Pur.assign rfl) ?_
      refine JO.nil ?_
      refine J.ret rfl rfl ?_
      have hv : rowsV rs xss = ([], [], 2) := by unfold rowsV; rw [if_neg (not_not_intro hs0), if_pos hl2]
      refine ⟨_, _, ⟨none, 0, none, 0, rfl, rfl⟩, by rw [hv]; rfl, fun h s => ?_⟩
      rw [hv]; exact sl_nil_new (sl_nil_new (SubC.out h s))
    · try simp only [decide_eq_true_eq, decide_eq_false_iff_not, Bool.not_eq_true', Bool.not_eq_false', Bool.and_eq_true, Bool.or_eq_true, Bool.and_eq_false_iff, Bool.or_eq_false_iff, Option.isNone_some, Option.isSome_some, Option.isNone_none, Option.isSome_none, Int.not_lt, Int.not_le, beq_iff_eq, beq_eq_false_iff_ne, bne_iff_ne, ne_eq, Bool.not_not, Decidable.not_not] at h15
      have hl2 : rs.length = 2 := by omega
      have hcd : cdV rs = canD rs := if_pos hs0.1
      have hcl := canD_len rs
      obtain ⟨ho0, hc0, hb0⟩ := one_ok hs0.1 (k := 0) (by omega)
      obtain ⟨R, hR⟩ : ∃ R, R = cnt ((canD rs).getD 0 default) := ⟨_, rfl⟩
      rw [← hR] at hc0 hb0
      have hxl4 := hs0.2.1
      have hrow : ∀ x ∈ xss, memS (canD rs) 0 (x.getD 0 0) = ((rowN (canD rs) x : Nat) : Int) ∧ rowN (canD rs) x < R := fun x hx => by
        obtain ⟨i, h1, h2, h3⟩ := mem_one hs0.1 (okS_some hs0 hx) (k := 0) (by omega)
        have e : rowN (canD rs) x = i := by unfold rowN; rw [h2]; rfl
        rw [e, hR]; exact ⟨h2, h3⟩
      refine J.condF rfl rfl ?_
      refine J.skip rfl ?_
      refine J.inBlock ?_
      refine J.seq rfl ?_
      refine J.region rfl ?_
      refine JO.pur rfl rfl rfl (Pur.fieldAddr rfl) ?_
      refine JO.pur rfl rfl rfl (Pur.loadA rfl rfl rfl (CellsIn.sub1 rfl)) ?_
      refine JO.eff rfl rfl rfl (Eff.call rfl (small_ok (rs := rs) rfl)) ?_
      rintro _ _ ⟨a23, c23, rfl, rfl⟩
      rw [hcd]
      refine JO.fact (fun h s => SlH.le (E := rgE) (a := a23) (cap := c23) (xs := canD rs) s) fun hcap => ?_
      refine JO.eff rfl rfl rfl (Eff.alloc (cs := [_]) rfl) ?_
      rintro _ _ ⟨b5, rfl, rfl⟩
      refine JO.effN rfl rfl (Eff.storeBA (cs' := [_]) rfl rfl (by rfl) (by rfl) (by rfl)) ?_
      rintro _ _ ⟨rfl, rfl⟩
      refine JO.nil ?_
      refine J.seq rfl ?_
      refine J.region rfl ?_
      refine JO.pur rfl rfl rfl (Pur.loadA rfl rfl rfl CellsIn.blk) ?_
      refine JO.effR rfl rfl rfl (Eff.call rfl (sides_ok (rs := canD rs) rfl hcap (by omega))) ?_
      refine JO.pur rfl rfl rfl (Pur.move rfl) ?_
      refine JO.pur rfl rfl rfl (Pur.extract rfl rfl) ?_
      refine JO.setv (u' := .int .i64 (R : Int)) 27 rfl (congrArg (Value.int .i64) hc0) ?_
      refine JO.pur rfl rfl rfl (Pur.extract rfl rfl) ?_
      refine JO.pur rfl rfl rfl (Pur.assign rfl) ?_
      refine JO.pur rfl rfl rfl (Pur.assign rfl) ?_
      refine JO.nil ?_
      refine J.seq rfl ?_
      refine J.region rfl ?_
      refine JO.pur rfl rfl rfl (Pur.move rfl) ?_
      refine JO.pur rfl rfl rfl (Pur.add rfl rfl (wr64 (by omega))) ?_
      refine JO.setv (u' := .int .i64 ((R + 1 : Nat) : Int)) 30 rfl rfl ?_
      refine JO.eff rfl rfl rfl (Eff.make intE 0 rfl rfl rfl rfl rfl (by decide) (by omega) (by omega)) ?_
      rintro _ _ ⟨b31, rfl, rfl⟩
      refine JO.pur rfl rfl rfl (Pur.assign rfl) ?_
      refine JO.nil ?_
      refine J.seq rfl ?_
      refine J.seq rfl ?_
      refine J.region rfl ?_
      refine JO.pur rfl rfl rfl (Pur.fieldAddr rfl) ?_
      refine JO.pur rfl rfl rfl (Pur.load rfl (CellIn.blk rfl)) ?_
      refine JO.pur rfl rfl rfl (Pur.len rfl) ?_
      refine JO.pur rfl rfl rfl (Pur.move rfl) ?_
      refine JO.nil ?_
      refine J.block rfl ?_
      refine J.loopF (ι := Nat × Option Addr × Nat) (fun q => q.1 ≤ xss.length) (fun q => [(3, .slice q.2.1 q.1 q.2.2), (35, .int .i64 (q.1 : Int))]) [(2, _), (5, _), (6, _), (33, _), (34, _)] (fun q => sl intE (some ⟨b31, 0, none⟩) (R + 1) (cntL (canD rs) R (xss.take q.1)) :: sl intE q.2.1 q.2.2 ((colL (canD rs) xss).take q.1) :: blk b5 (.cells #[.slice a23 (canD rs).length c23] 24) :: sl rgE a23 c23 (canD rs) :: blk b1 (.cells #[.slice a rs.length cap, .slice la hs.length lc] 27) :: L) (fun q => xss.length - q.1) (0, none, 0) rfl (.cons rfl rfl (.cons rfl rfl (.cons rfl rfl (.cons rfl rfl (.cons rfl rfl .nil))))) (.cons rfl rfl (.cons rfl rfl .nil)) (fun h s => by have s2 := sl_nil_new (E := intE) s; exact SubC.out (L := sl intE none 0 [] :: _) (M := sl intE _ _ (List.replicate (R + 1) 0) :: sl intE none 0 [] :: _) h s2) (Nat.zero_le _) ?_
      rintro ⟨k, a0, c0⟩ hk ih0
      try dsimp only
      dsimp only at hk
      have hco : (colL (canD rs) xss).length = xss.length := by simp [colL]
      have htl : ((colL (canD rs) xss).take k).length = k := by rw [List.length_take]; omega
      refine J.seq rfl ?_
      refine J.region rfl ?_
      refine JO.pur rfl rfl rfl (Pur.lss rfl rfl) ?_
      refine JO.nil ?_
      refine J.seq rfl ?_
      refine J.splitB 36 rfl (fun h36 => ?_) (fun h36 => ?_)
      · try simp only [decide_eq_true_eq, decide_eq_false_iff_not, Bool.not_eq_true', Bool.not_eq_false', Bool.and_eq_true, Bool.or_eq_true, Bool.and_eq_false_iff, Bool.or_eq_false_iff, Option.isNone_some, Option.isSome_some, Option.isNone_none, Option.isSome_none, Int.not_lt, Int.not_le, beq_iff_eq, beq_eq_false_iff_ne, bne_iff_ne, ne_eq, Bool.not_not, Decidable.not_not] at h36
        have hkl : k < xss.length := by omega
        obtain ⟨x, hX⟩ : ∃ x, xss[k]? = some x := ⟨_, List.getElem?_eq_getElem (by omega)⟩
        obtain ⟨hd, hH⟩ : ∃ hd, hs[k]? = some hd := ⟨_, List.getElem?_eq_getElem (by omega)⟩
        have hdn := hdr_n hnn hH hX
        have hxm := List.mem_of_getElem? hX
        have hxg : xss.getD k [] = x := getD_of' hX
        obtain ⟨hm0, hlt0⟩ := hrow x hxm
        have hx2 : x.length = 2 := by rw [okS_len hs0 hxm]; exact hl2
        have htk : xss.take (k + 1) = xss.take k ++ [x] := take_get hX
        have hst : (cntL (canD rs) R (xss.take (k + 1))) = incL (cntL (canD rs) R (xss.take k)) (rowN (canD rs) x) := by rw [htk, cntL_snoc]
        have hap1 : (colL (canD rs) xss).take (k + 1) = (colL (canD rs) xss).take k ++ [memS (canD rs) 1 (x.getD 1 0)] := take_get (by unfold colL; rw [List.getElem?_map, hX]; rfl)
        have hcnl := cntL_len (canD rs) R (xss.take k)
        obtain ⟨hp0, hps⟩ := cntL_bnd (d := (canD rs)) (n := R) (xss.take k) (fun y hy => (hrow y (List.mem_of_mem_take hy)).2)
        have hpe := getD_le_sum (rowN (canD rs) x + 1) hp0
        rw [hps, List.length_take] at hpe
        have hpe0 := hp0 (rowN (canD rs) x + 1)
        refine J.condT rfl rfl ?_
        refine J.skip rfl ?_
        refine J.seq rfl ?_
        refine J.block rfl ?_
        refine J.seq rfl ?_
        refine J.region rfl ?_
        refine JO.pur rfl rfl rfl (Pur.idx rfl rfl rfl (by first | rfl | (simp; done) | omega) rfl (by omega)) ?_
        refine JO.pur rfl rfl rfl (Pur.load rfl (CellIn.el0 rfl hH rfl)) ?_
        refine JO.setv (u' := .slice hd.a hd.n hd.cap) 38 rfl rfl ?_
        refine JO.pur rfl rfl rfl (Pur.assign rfl) ?_
        refine JO.nil ?_
        refine J.seq rfl ?_
        refine J.mask0 (n := 12) [11] rfl Try.mixed rfl (by kernel_rfl) ?_
        refine JM.take 0 (fun _ h => h) rfl (by kernel_rfl) rfl rfl rfl (m' := 1) rfl (Pur.move rfl) ?_
        refine JM.take 1 (fun _ h => h) rfl (by kernel_rfl) rfl rfl rfl (m' := 3) rfl (Pur.loadA rfl rfl rfl CellsIn.blk) ?_
        refine JM.take 2 (fun _ h => h) rfl (by kernel_rfl) rfl rfl rfl (m' := 7) rfl (Pur.move rfl) ?_
        refine JM.take 3 (fun _ h => h) rfl (by kernel_rfl) rfl rfl rfl (m' := 15) rfl (Pur.idx (hs := (RowsR.row (E := intE) inferInstance hH hX)) rfl rfl rfl (by first | rfl | (simp; done) | omega) (show (0 : Int) = ((0 : Nat) : Int) from rfl) (by omega)) ?_
        refine JM.take 4 (fun _ h => h) rfl (by kernel_rfl) rfl rfl rfl (m' := 31) rfl (Pur.load rfl (CellIn.el0 (hh := (RowsR.row (E := intE) inferInstance hH hX)) rfl (getD_at' 0 (by omega)) rfl)) ?_
        refine JM.setv (u' := .int .i64 (x.getD 0 0)) 43 rfl rfl ?_
        refine JM.one (i := 5) (by kernel_rfl) ?_
        refine JMi.effR (fun _ h => h) rfl rfl rfl rfl (m' := 63) rfl (Eff.call rfl (member_ok (rs := canD rs) (k := 0) (z := (x.getD 0 0)) rfl hcap (by omega) (by omega))) ?_
        refine JM.setv (u' := .int .i64 ((rowN (canD rs) x : Nat) : Int)) 44 rfl (congrArg (Value.int .i64) hm0) ?_
        refine JM.take 6 (fun _ h => h) rfl (by kernel_rfl) rfl rfl rfl (m' := 127) rfl (Pur.add rfl rfl (wr64 (by omega))) ?_
        refine JM.take 7 (fun _ h => h) rfl (by kernel_rfl) rfl rfl rfl (m' := 255) rfl (Pur.idx rfl rfl rfl (by first | rfl | (simp; done) | omega) (show (rowN (canD rs) x : Int) + 1 = ((rowN (canD rs) x + 1 : Nat) : Int) from rfl) (by omega)) ?_
        refine JM.take 8 (fun _ h => h) rfl (by kernel_rfl) rfl rfl rfl (m' := 511) rfl (Pur.load rfl (CellIn.el0 rfl (getD_at' 0 (by omega)) rfl)) ?_
        refine JM.setv (u' := .int .i64 ((cntL (canD rs) R (xss.take k)).getD (rowN (canD rs) x + 1) 0)) 47 rfl rfl ?_
        refine JM.take 9 (fun _ h => h) rfl (by kernel_rfl) rfl rfl rfl (m' := 1023) rfl (Pur.add rfl rfl (wr64 (by omega))) ?_
        refine JM.take 10 (fun _ h => h) rfl (by kernel_rfl) rfl rfl rfl (m' := 2047) rfl (Pur.idx rfl rfl rfl (by first | rfl | (simp; done) | omega) (show (rowN (canD rs) x : Int) + 1 = ((rowN (canD rs) x + 1 : Nat) : Int) from rfl) (by omega)) ?_
        refine JM.one (i := 11) (by kernel_rfl) ?_
        refine JMi.effN rfl rfl rfl (m' := 4095) rfl (Eff.storeS0 (z' := ((cntL (canD rs) R (xss.take k)).getD (rowN (canD rs) x + 1) 0 + 1)) rfl rfl rfl rfl (List.getElem?_eq_getElem (by omega)) .head) ?_
        rintro _ _ ⟨rfl, rfl⟩
        refine ⟨.inl (by simp), ?_⟩
        refine JM.done rfl ?_
        refine J.mask0 (n := 9) [7] rfl Try.mixed rfl (by kernel_rfl) ?_
        refine JM.take 0 (fun _ h => h) rfl (by kernel_rfl) rfl rfl rfl (m' := 1) rfl (Pur.move rfl) ?_
        refine JM.take 1 (fun _ h => h) rfl (by kernel_rfl) rfl rfl rfl (m' := 3) rfl (Pur.loadA rfl rfl rfl CellsIn.blk) ?_
        refine JM.take 2 (fun _ h => h) rfl (by kernel_rfl) rfl rfl rfl (m' := 7) rfl (Pur.move rfl) ?_
        refine JM.take 3 (fun _ h => h) rfl (by kernel_rfl) rfl rfl rfl (m' := 15) rfl (Pur.idx (hs := (RowsR.row (E := intE) inferInstance hH hX)) rfl rfl rfl (by first | rfl | (simp; done) | omega) (show (1 : Int) = ((1 : Nat) : Int) from rfl) (by omega)) ?_
        refine JM.take 4 (fun _ h => h) rfl (by kernel_rfl) rfl rfl rfl (m' := 31) rfl (Pur.load rfl (CellIn.el0 (hh := (RowsR.row (E := intE) inferInstance hH hX)) rfl (getD_at' 0 (by omega)) rfl)) ?_
        refine JM.setv (u' := .int .i64 (x.getD 1 0)) 54 rfl rfl ?_
        refine JM.one (i := 5) (by kernel_rfl) ?_
        refine JMi.effR (fun _ h => h) rfl rfl rfl rfl (m' := 63) rfl (Eff.call rfl (member_ok (rs := canD rs) (k := 1) (z := (x.getD 1 0)) rfl hcap (by omega) (by omega))) ?_
        refine JM.one (i := 6) (by kernel_rfl) ?_
        refine JMi.eff rfl rfl rfl rfl (m' := 127) rfl (Eff.buildSlice intE [memS (canD rs) 1 (x.getD 1 0)] rfl rfl rfl rfl rfl rfl rfl) ?_
        rintro _ _ ⟨b56, rfl, -, rfl⟩
        refine ⟨.inr (fun _ h => h.tail), ?_⟩
        refine JM.one (i := 7) (by kernel_rfl) ?_
        refine JMi.eff rfl rfl rfl rfl (m' := 255) rfl (Eff.append rfl rfl rfl rfl (by first | rfl | omega | (simp; done) | (simp; omega)) (by first | rfl | omega | (simp; done) | (simp; omega)) (by decide) (by simp; omega) (by simp; omega) (fun h => by cases h)) ?_
        rintro _ _ ⟨a57, c57, rfl, rfl⟩
        refine ⟨.inl (by simp), ?_⟩
        refine JM.takeF 8 (.inl (by kernel_rfl)) rfl (by kernel_rfl) rfl rfl rfl (m' := 511) rfl (Pur.assign rfl) ?_
        refine JM.done rfl ?_
        refine J.inBlock ?_
        refine J.region rfl ?_
        refine JO.pur rfl rfl rfl (Pur.add rfl rfl (wr64 (by omega))) ?_
        refine JO.pur rfl rfl rfl (Pur.move rfl) ?_
        refine JO.nil ?_
        exact J.weaken (.cons rfl (by show Value.slice a57 _ c57 = Value.slice a57 (k + 1) c57; rw [htl]; rfl) (.cons rfl (congrArg (Value.int .i64) (by first | rfl | (dsimp only; omega))) (.cons rfl rfl (.cons rfl rfl (.cons rfl rfl (.cons rfl rfl (.cons rfl rfl .nil))))))) (fun h s => by dsimp only; rw [hst, hap1]; unfold incL; exact SubC.out h s) (ih0 (k + 1, a57, c57) (by dsimp only; omega) (by dsimp only; omega))
      · try simp only [decide_eq_true_eq, decide_eq_false_iff_not, Bool.not_eq_true', Bool.not_eq_false', Bool.and_eq_true, Bool.or_eq_true, Bool.and_eq_false_iff, Bool.or_eq_false_iff, Option.isNone_some, Option.isSome_some, Option.isNone_none, Option.isSome_none, Int.not_lt, Int.not_le, beq_iff_eq, beq_eq_false_iff_ne, bne_iff_ne, ne_eq, Bool.not_not, Decidable.not_not] at h36
        have hke : k = xss.length := by omega
        subst hke
        rw [List.take_length, show (colL (canD rs) xss).take xss.length = (colL (canD rs) xss) from List.take_of_length_le (by simp [colL])]
        obtain ⟨hp0, hps⟩ := cntL_bnd (d := (canD rs)) (n := R) xss (fun y hy => (hrow y hy).2)
        have hcnl := cntL_len (canD rs) R xss
        refine J.condF rfl rfl ?_
        refine J.exit rfl rfl ?_
        refine J.seq rfl ?_
        refine J.seq rfl ?_
        refine J.region rfl ?_
        refine JO.pur rfl rfl rfl (Pur.move rfl) ?_
        refine JO.pur rfl rfl rfl (Pur.move rfl) ?_
        refine JO.nil ?_
        refine J.block rfl ?_
        refine J.loopF (ι := Nat) (fun q => q ≤ R) (fun q => [(60, .int .i64 (q : Int))]) [(2, _), (3, _), (59, _)] (fun q => sl intE (some ⟨b31, 0, none⟩) (R + 1) (preL (cntL (canD rs) R (xss)) q) :: sl intE a0 c0 (colL (canD rs) xss) :: blk b5 (.cells #[.slice a23 (canD rs).length c23] 24) :: sl rgE a23 c23 (canD rs) :: blk b1 (.cells #[.slice a rs.length cap, .slice la hs.length lc] 27) :: L) (fun q => R - q) 0 rfl (.cons rfl rfl (.cons rfl rfl (.cons rfl rfl .nil))) (.cons rfl rfl .nil) (fun h s => by rw [preL_zero]; exact SubC.out h s) (Nat.zero_le _) ?_
        rintro j hj ihj
        try dsimp only
        refine J.seq rfl ?_
        refine J.region rfl ?_
        refine JO.pur rfl rfl rfl (Pur.lss rfl rfl) ?_
        refine JO.nil ?_
        refine J.seq rfl ?_
        refine J.splitB 61 rfl (fun h61 => ?_) (fun h61 => ?_)
        · try simp only [decide_eq_true_eq, decide_eq_false_iff_not, Bool.not_eq_true', Bool.not_eq_false', Bool.and_eq_true, Bool.or_eq_true, Bool.and_eq_false_iff, Bool.or_eq_false_iff, Option.isNone_some, Option.isSome_some, Option.isNone_none, Option.isSome_none, Int.not_lt, Int.not_le, beq_iff_eq, beq_eq_false_iff_ne, bne_iff_ne, ne_eq, Bool.not_not, Decidable.not_not] at h61
          have hco : (colL (canD rs) xss).length = xss.length := by simp [colL]
          have hjl : j < R := by omega
          have hpl := preL_len (cntL (canD rs) R (xss)) j
          have h67 : (preL (cntL (canD rs) R (xss)) j)[j + 1]? = some ((cntL (canD rs) R (xss)).getD (j + 1) 0) := by rw [preL_get (by omega), if_neg (by omega)]
          have h71 : (preL (cntL (canD rs) R (xss)) j)[j]? = some (((cntL (canD rs) R (xss)).take (j + 1)).sum) := by rw [preL_get (by omega), if_pos (Nat.le_refl _)]
          have hts := take_sum_le (l := (cntL (canD rs) R (xss))) (j + 1) hp0
          have hge := getD_le_sum (j + 1) hp0
          rw [hps] at hts hge
          have hg0 := hp0 (j + 1)
          refine J.condT rfl rfl ?_
          refine J.skip rfl ?_
          refine J.seq rfl ?_
          refine J.block rfl ?_
          refine J.seq rfl ?_
          refine J.region rfl ?_
          refine JO.pur rfl rfl rfl (Pur.move rfl) ?_
          refine JO.pur rfl rfl rfl (Pur.assign rfl) ?_
          refine JO.nil ?_
          refine J.mask0 (n := 12) [11] rfl Try.mixed rfl (by kernel_rfl) ?_
          refine JM.take 0 (fun _ h => h) rfl (by kernel_rfl) rfl rfl rfl (m' := 1) rfl (Pur.move rfl) ?_
          refine JM.take 1 (fun _ h => h) rfl (by kernel_rfl) rfl rfl rfl (m' := 3) rfl (Pur.move rfl) ?_
          refine JM.take 2 (fun _ h => h) rfl (by kernel_rfl) rfl rfl rfl (m' := 7) rfl (Pur.add rfl rfl (wr64 (by omega))) ?_
          refine JM.take 3 (fun _ h => h) rfl (by kernel_rfl) rfl rfl rfl (m' := 15) rfl (Pur.idx rfl rfl rfl (by first | rfl | (simp; done) | omega) (show (j : Int) + 1 = ((j + 1 : Nat) : Int) from rfl) (by omega)) ?_
          refine JM.take 4 (fun _ h => h) rfl (by kernel_rfl) rfl rfl rfl (m' := 31) rfl (Pur.load rfl (CellIn.el0 rfl h67 rfl)) ?_
          refine JM.take 5 (fun _ h => h) rfl (by kernel_rfl) rfl rfl rfl (m' := 63) rfl (Pur.move rfl) ?_
          refine JM.take 6 (fun _ h => h) rfl (by kernel_rfl) rfl rfl rfl (m' := 127) rfl (Pur.move rfl) ?_
          refine JM.take 7 (fun _ h => h) rfl (by kernel_rfl) rfl rfl rfl (m' := 255) rfl (Pur.idx rfl rfl rfl (by first | rfl | (simp; done) | omega) rfl (by omega)) ?_
          refine JM.take 8 (fun _ h => h) rfl (by kernel_rfl) rfl rfl rfl (m' := 511) rfl (Pur.load rfl (CellIn.el0 rfl h71 rfl)) ?_
          refine JM.take 9 (fun _ h => h) rfl (by kernel_rfl) rfl rfl rfl (m' := 1023) rfl (Pur.add rfl rfl (wr64 (by omega))) ?_
          refine JM.take 10 (fun _ h => h) rfl (by kernel_rfl) rfl rfl rfl (m' := 2047) rfl (Pur.idx rfl rfl rfl (by first | rfl | (simp; done) | omega) (show (j : Int) + 1 = ((j + 1 : Nat) : Int) from rfl) (by omega)) ?_
          refine JM.one (i := 11) (by kernel_rfl) ?_
          refine JMi.effN rfl rfl rfl (m' := 4095) rfl (Eff.storeS0 (z' := ((cntL (canD rs) R (xss)).getD (j + 1) 0 + ((cntL (canD rs) R (xss)).take (j + 1)).sum)) rfl rfl rfl rfl (List.getElem?_eq_getElem (by omega)) .head) ?_
          rintro _ _ ⟨rfl, rfl⟩
          refine ⟨.inl (by simp), ?_⟩
          refine JM.done rfl ?_
          refine J.inBlock ?_
          refine J.region rfl ?_
          refine JO.pur rfl rfl rfl (Pur.add rfl rfl (wr64 (by omega))) ?_
          refine JO.pur rfl rfl rfl (Pur.move rfl) ?_
          refine JO.nil ?_
          exact J.weaken (.cons rfl (congrArg (Value.int .i64) (by first | rfl | (dsimp only; omega))) (.cons rfl rfl (.cons rfl rfl (.cons rfl rfl .nil)))) (fun h s => by rw [← preL_succ (by omega)]; exact SubC.out h s) (ihj (j + 1) (by omega) (by omega))
        · try simp only [decide_eq_true_eq, decide_eq_false_iff_not, Bool.not_eq_true', Bool.not_eq_false', Bool.and_eq_true, Bool.or_eq_true, Bool.and_eq_false_iff, Bool.or_eq_false_iff, Option.isNone_some, Option.isSome_some, Option.isNone_none, Option.isSome_none, Int.not_lt, Int.not_le, beq_iff_eq, beq_eq_false_iff_ne, bne_iff_ne, ne_eq, Bool.not_not, Decidable.not_not] at h61
          have hco : (colL (canD rs) xss).length = xss.length := by simp [colL]
          have hje : j = R := by omega
          refine J.condF rfl rfl ?_
          refine J.exit rfl rfl ?_
          refine J.seq rfl ?_
          refine J.region rfl ?_
          refine JO.pur rfl rfl rfl (Pur.move rfl) ?_
          refine JO.pur rfl rfl rfl (Pur.move rfl) ?_
          refine JO.pur rfl rfl rfl (Pur.assign rfl) ?_
          refine JO.pur rfl rfl rfl (Pur.assign rfl) ?_
          refine JO.pur rfl rfl rfl (Pur.assign rfl) ?_
          refine JO.nil ?_
          refine J.ret rfl rfl ?_
          have hRn : (ctV (oneR (canD rs) 0)).toNat = R := by rw [hc0]; rfl
          have hv : rowsV rs xss = (preL (cntL (canD rs) R (xss)) R, (colL (canD rs) xss), 0) := by unfold rowsV; rw [if_neg (not_not_intro hs0), if_neg (not_not_intro hl2), hRn]
          refine ⟨_, _, ⟨_, _, a0, c0, rfl, rfl⟩, by rw [hv]; dsimp only; rw [preL_len, hcnl, hco]; rfl, fun h s => ?_⟩
          rw [hje] at s
          rw [hv]
          exact SubC.out h s

end Go.Proofs.Ytnhippfllgnngaa

/- The text SH5. -/
set_option linter.unusedVariables false
set_option linter.unusedSimpArgs false
set_option maxRecDepth 10000
namespace Go.Proofs.Ytnhippfllgnngaa
open Go Go.KK Dm

def thD : List Rg := [⟨1, 3, 1⟩, ⟨1, 3, 1⟩]
def thL : List (List Int) := [[1, 2], [3, 1], [3, 3]]
theorem th_rows : rowsV thD thL = ([0, 1, 1, 3], [1, 0, 2], 0) := by decide +kernel
theorem three_ok {L : List Asn} :
    CallS Try.prog 84 [].toArray L (fun v M => ∃ a' c', v = .agg #[.slice a' thD.length c'] ∧ M = sl rgE a' c' thD :: L) := by
  refine CallS.ent ?_
  refine CallS.enter Try.func84 rfl rfl rfl rfl rfl ?_
  refine J.seq rfl ?_
  refine J.region rfl ?_
  refine JO.eff rfl rfl rfl (Eff.alloc (cs := [_]) rfl) ?_
  rintro _ _ ⟨b0, rfl, rfl⟩
  refine JO.nil ?_
  refine J.seq rfl ?_
  refine J.region rfl ?_
  refine JO.pur rfl rfl rfl (Pur.build (cs := [_, _, _]) rfl rfl) ?_
  refine JO.pur rfl rfl rfl (Pur.build (cs := [_, _, _]) rfl rfl) ?_
  refine JO.eff rfl rfl rfl (Eff.buildSlice rgE thD rfl rfl rfl rfl rfl rfl rfl) ?_
  rintro _ _ ⟨b3, rfl, -, rfl⟩
  refine JO.pur rfl rfl rfl (Pur.build (cs := [_]) rfl rfl) ?_
  refine JO.effN rfl rfl (Eff.storeBA (cs' := [_]) rfl rfl (by rfl) (by rfl) (by rfl)) ?_
  rintro _ _ ⟨rfl, rfl⟩
  refine JO.nil ?_
  refine J.retC rfl (.cell rfl (ld_agg rfl CellsIn.blk) .nil) ?_
  refine ⟨_, _, ⟨some ⟨b3, 0, none⟩, 2, rfl, rfl⟩, rfl, SubC.out⟩

theorem th_rowsA {b6 b7 b8 b9 : Nat} {a5 : Option Addr} {c5 : Nat} {L : List Asn} {h : Hp} (s : Sat h (sl hE (some ⟨b9, 0, none⟩) 3 [⟨some ⟨b6, 0, none⟩, 2, 2⟩, ⟨some ⟨b7, 0, none⟩, 2, 2⟩, ⟨some ⟨b8, 0, none⟩, 2, 2⟩] :: sl intE (some ⟨b8, 0, none⟩) 2 [3, 3] :: sl intE (some ⟨b7, 0, none⟩) 2 [3, 1] :: sl intE (some ⟨b6, 0, none⟩) 2 [1, 2] :: sl rgE a5 c5 thD :: L)) :
    Sat h (sl hE (some ⟨b9, 0, none⟩) 3 [⟨some ⟨b6, 0, none⟩, 2, 2⟩, ⟨some ⟨b7, 0, none⟩, 2, 2⟩, ⟨some ⟨b8, 0, none⟩, 2, 2⟩] :: rows intE [⟨some ⟨b6, 0, none⟩, 2, 2⟩, ⟨some ⟨b7, 0, none⟩, 2, 2⟩, ⟨some ⟨b8, 0, none⟩, 2, 2⟩] thL :: sl rgE a5 c5 thD :: L) := by
  have s2 : Sat h (sl intE (some ⟨b6, 0, none⟩) 2 [1, 2] :: sl intE (some ⟨b7, 0, none⟩) 2 [3, 1] :: sl intE (some ⟨b8, 0, none⟩) 2 [3, 3] :: sl hE (some ⟨b9, 0, none⟩) 3 [⟨some ⟨b6, 0, none⟩, 2, 2⟩, ⟨some ⟨b7, 0, none⟩, 2, 2⟩, ⟨some ⟨b8, 0, none⟩, 2, 2⟩] :: sl rgE a5 c5 thD :: L) := SubC.out h s
  have s3 : Sat h (rows intE [⟨some ⟨b6, 0, none⟩, 2, 2⟩, ⟨some ⟨b7, 0, none⟩, 2, 2⟩, ⟨some ⟨b8, 0, none⟩, 2, 2⟩] thL :: sl hE (some ⟨b9, 0, none⟩) 3 [⟨some ⟨b6, 0, none⟩, 2, 2⟩, ⟨some ⟨b7, 0, none⟩, 2, 2⟩, ⟨some ⟨b8, 0, none⟩, 2, 2⟩] :: sl rgE a5 c5 thD :: L) := rows_iff.2 ⟨rfl, s2⟩
  exact SubC.out h s3
theorem first_ok {L : List Asn} :
    CallS Try.prog 21 [].toArray L (fun v M => v = .bool true ∧ M = L) := by
  refine CallS.ent ?_
  refine CallS.enter Try.func21 rfl rfl rfl rfl rfl ?_
  refine J.seq rfl ?_
  refine J.region rfl ?_
  refine JO.pur rfl rfl rfl (Pur.assign rfl) ?_
  refine JO.nil ?_
  refine J.seq rfl ?_
  refine J.region rfl ?_
  refine JO.eff rfl rfl rfl (Eff.call rfl (three_ok)) ?_
  rintro _ _ ⟨a5, c5, rfl, rfl⟩
  refine JO.eff rfl rfl rfl (Eff.buildSlice intE [1, 2] rfl rfl rfl rfl rfl rfl rfl) ?_
  rintro _ _ ⟨b6, rfl, -, rfl⟩
  refine JO.eff rfl rfl rfl (Eff.buildSlice intE [3, 1] rfl rfl rfl rfl rfl rfl rfl) ?_
  rintro _ _ ⟨b7, rfl, -, rfl⟩
  refine JO.eff rfl rfl rfl (Eff.buildSlice intE [3, 3] rfl rfl rfl rfl rfl rfl rfl) ?_
  rintro _ _ ⟨b8, rfl, -, rfl⟩
  refine JO.eff rfl rfl rfl (Eff.buildSlice hE [⟨some ⟨b6, 0, none⟩, 2, 2⟩, ⟨some ⟨b7, 0, none⟩, 2, 2⟩, ⟨some ⟨b8, 0, none⟩, 2, 2⟩] rfl rfl rfl rfl rfl rfl rfl) ?_
  rintro _ _ ⟨b9, rfl, -, rfl⟩
  refine JO.pur rfl rfl rfl (Pur.build (cs := [_, _]) rfl rfl) ?_
  refine JO.imp (M := sl hE (some ⟨b9, 0, none⟩) 3 [⟨some ⟨b6, 0, none⟩, 2, 2⟩, ⟨some ⟨b7, 0, none⟩, 2, 2⟩, ⟨some ⟨b8, 0, none⟩, 2, 2⟩] :: rows intE [⟨some ⟨b6, 0, none⟩, 2, 2⟩, ⟨some ⟨b7, 0, none⟩, 2, 2⟩, ⟨some ⟨b8, 0, none⟩, 2, 2⟩] thL :: sl rgE a5 c5 thD :: L) (fun h s => ?_) ?_
  · exact th_rowsA s
  refine JO.eff rfl rfl rfl (Eff.call rfl (s_Rows (rs := thD) (hs := [⟨some ⟨b6, 0, none⟩, 2, 2⟩, ⟨some ⟨b7, 0, none⟩, 2, 2⟩, ⟨some ⟨b8, 0, none⟩, 2, 2⟩]) (xss := thL) rfl rfl)) ?_
  rintro _ _ ⟨a11, c11, a12, c12, rfl, rfl⟩
  rw [th_rows]
  refine JO.pur rfl rfl rfl (Pur.move rfl) ?_
  refine JO.pur rfl rfl rfl (Pur.extract rfl rfl) ?_
  refine JO.pur rfl rfl rfl (Pur.extract rfl rfl) ?_
  refine JO.pur rfl rfl rfl (Pur.extract rfl rfl) ?_
  refine JO.pur rfl rfl rfl (Pur.assign rfl) ?_
  refine JO.pur rfl rfl rfl (Pur.assign rfl) ?_
  refine JO.pur rfl rfl rfl (Pur.assign rfl) ?_
  refine JO.nil ?_
  refine J.seq rfl ?_
  refine J.region rfl ?_
  refine JO.pur rfl rfl rfl (Pur.move rfl) ?_
  refine JO.pur rfl rfl rfl (Pur.eqlI rfl rfl) ?_
  refine JO.pur rfl rfl rfl (Pur.move rfl) ?_
  refine JO.setv (u' := .bool true) 17 rfl (congrArg Value.bool (rfl)) ?_
  refine JO.pur rfl rfl rfl (Pur.move rfl) ?_
  refine JO.eff rfl rfl rfl (Eff.buildSlice intE [0, 1, 1, 3] rfl rfl rfl rfl rfl rfl rfl) ?_
  rintro _ _ ⟨b19, rfl, -, rfl⟩
  refine JO.effR rfl rfl rfl (Eff.call rfl (same5_ok (xs := [0, 1, 1, 3]) (ys := [0, 1, 1, 3]) rfl rfl (by decide))) ?_
  refine JO.setv (u' := .bool true) 20 rfl (congrArg Value.bool (decide_eq_true rfl)) ?_
  refine JO.pur rfl rfl rfl (Pur.pickT rfl rfl) ?_
  refine JO.pur rfl rfl rfl (Pur.move rfl) ?_
  refine JO.pur rfl rfl rfl (Pur.move rfl) ?_
  refine JO.eff rfl rfl rfl (Eff.buildSlice intE [1, 0, 2] rfl rfl rfl rfl rfl rfl rfl) ?_
  rintro _ _ ⟨b24, rfl, -, rfl⟩
  refine JO.effR rfl rfl rfl (Eff.call rfl (same5_ok (xs := [1, 0, 2]) (ys := [1, 0, 2]) rfl rfl (by decide))) ?_
  refine JO.setv (u' := .bool true) 25 rfl (congrArg Value.bool (decide_eq_true rfl)) ?_
  refine JO.pur rfl rfl rfl (Pur.pickT rfl rfl) ?_
  refine JO.pur rfl rfl rfl (Pur.assign rfl) ?_
  refine JO.nil ?_
  refine J.ret rfl rfl ?_
  refine ⟨_, _, ⟨rfl, rfl⟩, rfl, SubC.out⟩

end Go.Proofs.Ytnhippfllgnngaa

/- The text SJ1. -/
set_option linter.unusedVariables false
set_option linter.unusedSimpArgs false
set_option maxRecDepth 10000
namespace Go.Proofs.Ytnhippfllgnngaa
open Go Go.KK Dm

theorem cloneR {L : List Asn} {a : Option Addr} {n cap : Nat} {xs : List Rg} [SlIn rgE L a xs] (hn : n = xs.length) (hb : xs.length ≤ 1000000) (hnil : a = none → n = 0 ∧ cap = 0) :
    CallS Try.prog 147 [.slice a n cap].toArray L (fun v M => ∃ a' cap', (v = .slice a' n cap' ∧ (a = none → a' = none)) ∧ M = sl rgE a' cap' xs :: L) := by
  subst hn
  refine CallS.ent ?_
  refine CallS.enter Try.func147 rfl rfl rfl rfl rfl ?_
  refine J.seq rfl ?_
  refine J.region rfl ?_
  refine JO.pur rfl rfl rfl (Pur.assign rfl) ?_
  refine JO.nil ?_
  refine J.seq rfl ?_
  refine J.seq rfl ?_
  refine J.region rfl ?_
  refine JO.pur rfl rfl rfl (Pur.move rfl) ?_
  refine JO.pur rfl rfl rfl (Pur.eqlSlNil rfl) ?_
  refine JO.nil ?_
  refine J.splitB 4 rfl (fun h4 => ?_) (fun h4 => ?_)
  · try simp only [decide_eq_true_eq, decide_eq_false_iff_not, Bool.not_eq_true', Bool.not_eq_false', Bool.and_eq_true, Bool.or_eq_true, Bool.and_eq_false_iff, Bool.or_eq_false_iff, Option.isNone_some, Option.isSome_some, Option.isNone_none, Option.isSome_none, Int.not_lt, Int.not_le, beq_iff_eq, beq_eq_false_iff_ne, bne_iff_ne, ne_eq, Bool.not_not, Decidable.not_not] at h4
    have ha : a = none := by cases a with | none => rfl | some p => simp at h4
    subst ha
    obtain ⟨e1, e2⟩ := hnil rfl
    have e3 : xs = [] := List.eq_nil_of_length_eq_zero (by omega)
    subst e2; subst e3
    refine J.condT rfl rfl ?_
    refine J.seq rfl ?_
    refine J.region rfl ?_
    refine JO.pur rfl rfl rfl (Pur.assign rfl) ?_
    refine JO.nil ?_
    refine J.ret rfl rfl ?_
    exact ⟨_, _, ⟨none, 0, ⟨rfl, fun _ => rfl⟩, rfl⟩, rfl, fun h hs => sl_nil_new hs⟩
  · try simp only [decide_eq_true_eq, decide_eq_false_iff_not, Bool.not_eq_true', Bool.not_eq_false', Bool.and_eq_true, Bool.or_eq_true, Bool.and_eq_false_iff, Bool.or_eq_false_iff, Option.isNone_some, Option.isSome_some, Option.isNone_none, Option.isSome_none, Int.not_lt, Int.not_le, beq_iff_eq, beq_eq_false_iff_ne, bne_iff_ne, ne_eq, Bool.not_not, Decidable.not_not] at h4
    refine J.condF rfl rfl ?_
    refine J.skip rfl ?_
    refine J.seq rfl ?_
    refine J.region rfl ?_
    refine JO.eff rfl rfl rfl (Eff.buildSlice rgE [] rfl rfl rfl rfl rfl rfl rfl) ?_
    rintro _ _ ⟨b5, rfl, -, rfl⟩
    refine JO.pur rfl rfl rfl (Pur.move rfl) ?_
    refine JO.eff rfl rfl rfl (Eff.append rfl rfl rfl rfl (by first | rfl | omega | (simp; done) | (simp; omega)) (by first | rfl | omega | (simp; done) | (simp; omega)) (by decide) (by simp; omega) (by simp; omega) hnil) ?_
    rintro _ _ ⟨a7, c7, rfl, rfl⟩
    refine JO.pur rfl rfl rfl (Pur.assign rfl) ?_
    refine JO.nil ?_
    refine J.ret rfl rfl ?_
    refine ⟨_, _, ⟨a7, c7, ⟨rfl, fun e => ?_⟩, rfl⟩, ?_, fun h hs => ?_⟩
    · rw [e] at h4; simp at h4
    · show Value.slice _ _ _ = Value.slice _ _ _
      simp
    · simpa using hs

theorem slIn_some {α : Type} {E : Enc α} {L : List Asn} {a : Option Addr} {xs : List α} [hs : SlIn E L a xs] (h1 : 1 ≤ xs.length) {h : Hp} (s : Sat h L) : a ≠ none := by
  rcases hs.out h s with h0 | ⟨b, off, C, T, fz, ha, _⟩
  · rw [h0] at h1; simp at h1
  · rw [ha]; simp
theorem cloneD {L : List Asn} {a : Option Addr} {n cap : Nat} {rs : List Rg} [SlIn rgE L a rs] (hn : n = rs.length) (hok : okD rs) :
    CallS Try.prog 94 [.agg #[.slice a n cap]].toArray L (fun v M => ∃ a' c', v = .agg #[.slice a' rs.length c'] ∧ M = sl rgE a' c' rs :: L) := by
  subst hn
  refine CallS.fact (fun h s => slIn_some (E := rgE) (a := a) (xs := rs) hok.1 s) fun hne => ?_
  refine CallS.ent ?_
  refine CallS.enter Try.func94 rfl rfl rfl rfl rfl ?_
  refine J.seq rfl ?_
  refine J.region rfl ?_
  refine JO.eff rfl rfl rfl (Eff.box (cs := [_]) rfl rfl) ?_
  rintro _ _ ⟨b1, rfl, rfl⟩
  refine JO.eff rfl rfl rfl (Eff.alloc (cs := [_]) rfl) ?_
  rintro _ _ ⟨b2, rfl, rfl⟩
  refine JO.nil ?_
  refine J.seq rfl ?_
  refine J.region rfl ?_
  refine JO.pur rfl rfl rfl (Pur.fieldAddr rfl) ?_
  refine JO.pur rfl rfl rfl (Pur.load rfl (CellIn.blk rfl)) ?_
  refine JO.eff rfl rfl rfl (Eff.call rfl (cloneR (xs := rs) rfl (by have := hok.2.1; omega) (fun e => absurd e hne))) ?_
  rintro _ _ ⟨a5, c5, ⟨rfl, -⟩, rfl⟩
  refine JO.pur rfl rfl rfl (Pur.build (cs := [_]) rfl rfl) ?_
  refine JO.effN rfl rfl (Eff.storeBA (cs' := [_]) rfl rfl (by rfl) (by rfl) (by rfl)) ?_
  rintro _ _ ⟨rfl, rfl⟩
  refine JO.nil ?_
  refine J.retC rfl (.cell rfl (ld_agg rfl CellsIn.blk) .nil) ?_
  refine ⟨_, _, ⟨a5, c5, rfl, rfl⟩, rfl, SubC.out⟩

end Go.Proofs.Ytnhippfllgnngaa

/- The text SJ2. -/
set_option linter.unusedVariables false
set_option linter.unusedSimpArgs false
set_option maxRecDepth 10000
namespace Go.Proofs.Ytnhippfllgnngaa
open Go Go.KK Dm

/-- The sparse domain of some places. -/
def madeL (rs : List Rg) (ts : List Int) : List (List Int) := ((List.range (cntD rs)).filter fun (i : Nat) => decide ((i : Int) ∈ ts)).map (ixD rs)
def madeK (rs : List Rg) (ts : List Int) (k : Nat) : List (List Int) := ((List.range k).filter fun (i : Nat) => decide ((i : Int) ∈ ts)).map (ixD rs)
def hasL (n : Nat) (ts : List Int) : List Bool := (List.range n).map fun (i : Nat) => decide ((i : Int) ∈ ts)
end Go.Proofs.Ytnhippfllgnngaa

/- The text SJ3. -/
set_option linter.unusedVariables false
set_option linter.unusedSimpArgs false
set_option maxRecDepth 10000
namespace Go.Proofs.Ytnhippfllgnngaa
open Go Go.KK Dm

theorem eqRg (x y : Rg) (w : World) : (Op.equal 93 (.agg (rgE.enc x).toArray) (.agg (rgE.enc y).toArray)).run Try.prog w = .ok (decide (x = y)) w := by
  have hu := run_underlying (P := Try.prog) Try.underlying93 w
  have hi : (sizeOf 3).run Try.prog w = .ok 1 w := run_sizeOf_of (by kernel_rfl)
  have hs := Scl.run (P := Try.prog) (t := 3) (w := w) (by kernel_rfl)
  have he := fun a b => run_equalIn_int (P := Try.prog) w 9998 3 .i64 .i64 a b Try.underlying3
  have hst : Try.prog.stoodInHeld 93 = false := by kernel_rfl
  obtain ⟨a, b, c⟩ := x
  obtain ⟨a', b', c'⟩ := y
  unfold Op.equal
  rw [show Op.maxDepth = 9999 + 1 from rfl, Op.equalIn.eq_def]
  simp only [rgE, Sem.run_bind, hu, hi, Result.andThen_ok]
  simp [part, hs, he, hst, go_sem]
  by_cases h1 : a = a' <;> by_cases h2 : b = b' <;> by_cases h3 : c = c' <;> simp [h1, h2, h3]
instance : EqE Try.prog 93 rgE := ⟨by kernel_rfl, eqRg⟩
theorem asc_unique {a b : List Nat} (ha : a.Pairwise (· < ·)) (hb : b.Pairwise (· < ·)) (hm : ∀ n, n ∈ a ↔ n ∈ b) : a = b := by
  have na : a.Nodup := ha.imp fun h => by omega
  have nb : b.Nodup := hb.imp fun h => by omega
  have hp := (List.perm_ext_iff_of_nodup na nb).2 hm
  exact hp.eq_of_pairwise (le := fun x y => x < y) (fun x y _ _ h1 h2 => absurd h1 (by omega)) ha hb
/-- The indexes whose places are ascending are what is made of these. -/
theorem made_of {rs : List Rg} (h : okD rs) {ys : List (List Int)} (hs : ∀ y ∈ ys, (plD rs y).isSome = true) (ha : ys.Pairwise fun x y => atS rs x < atS rs y) : madeL rs (ys.map (atS rs)) = ys := by
  have hat : ∀ y ∈ ys, ((plD rs y).getD 0 < cntD rs) ∧ ixD rs ((plD rs y).getD 0) = y := fun y hy => by
    obtain ⟨n, hn⟩ := Option.isSome_iff_exists.1 (hs y hy)
    have h1 := plD_lt h.2.2.1 hn
    have h2 := (plD_iff h.2.2.1).1 hn
    rw [hn]
    refine ⟨h1, ?_⟩
    have := ixD_get h1
    rw [h2] at this
    exact (Option.some.inj this).symm
  have e1 : ys = (ys.map fun y => (plD rs y).getD 0).map (ixD rs) := by
    rw [List.map_map]
    conv => lhs; rw [← List.map_id ys]
    exact List.map_congr_left fun y hy => (hat y hy).2.symm
  unfold madeL
  conv => rhs; rw [e1]
  refine congrArg (List.map (ixD rs)) (asc_unique (List.Pairwise.filter _ List.pairwise_lt_range) ?_ fun n => ?_)
  · rw [List.pairwise_map]
    exact ha.imp fun h => by unfold atS at h; omega
  · simp only [List.mem_filter, List.mem_range, decide_eq_true_eq, List.mem_map]
    constructor
    · rintro ⟨_, y, hy, e⟩
      exact ⟨y, hy, by unfold atS at e; omega⟩
    · rintro ⟨y, hy, e⟩
      exact ⟨by rw [← e]; exact (hat y hy).1, y, hy, by unfold atS; omega⟩
theorem okS_pw {rs : List Rg} {xss : List (List Int)} (h : okS rs xss) : xss.Pairwise fun x y => atS rs x < atS rs y := by
  rw [List.pairwise_iff_getElem]
  intro i j hi hj hij
  have := okS_asc h j i hij hj
  rwa [List.getD_eq_getElem?_getD, List.getD_eq_getElem?_getD, List.getElem?_eq_getElem hi, List.getElem?_eq_getElem hj] at this
end Go.Proofs.Ytnhippfllgnngaa

/- The text SpPlainB. -/
set_option linter.unusedVariables false
set_option linter.unusedSimpArgs false
namespace Go.Proofs.Ytnhippfllgnngaa
open Go Go.KK Dm
theorem perm_lift {α β : Type} {f : α → β} {ys : List β} {gs : List α} (h : ys.Perm (gs.map f)) : ∃ gs2 : List α, gs2.Perm gs ∧ gs2.map f = ys := by
  generalize e : gs.map f = zs at h
  induction h generalizing gs with
  | nil => exact ⟨[], by rw [List.map_eq_nil_iff.1 e], rfl⟩
  | cons x h ih =>
    obtain ⟨g, l, rfl, rfl, e2⟩ := List.map_eq_cons_iff.1 e
    obtain ⟨l2, p, e3⟩ := ih e2
    exact ⟨g :: l2, p.cons g, by rw [List.map_cons, e3]⟩
  | swap x y l =>
    obtain ⟨g, l1, rfl, rfl, e2⟩ := List.map_eq_cons_iff.1 e
    obtain ⟨g2, l2, rfl, rfl, e3⟩ := List.map_eq_cons_iff.1 e2
    exact ⟨g2 :: g :: l2, .swap _ _ _, by rw [List.map_cons, List.map_cons, e3]⟩
  | trans h1 h2 ih1 ih2 =>
    obtain ⟨g2, p2, e2⟩ := ih2 e
    obtain ⟨g1, p1, e1⟩ := ih1 e2
    exact ⟨g1, p1.trans p2, e1⟩
section
variable {α : Type} {E : Enc α}
theorem zip_lens : ∀ {hs : List Hdr} {xss : List (List α)}, hs.map (·.n) = xss.map (·.length) ↔ hs.length = xss.length ∧ ∀ p ∈ hs.zip xss, p.1.n = p.2.length
  | [], [] => by simp
  | [], x :: xs => by simp
  | h :: hs, [] => by simp
  | h :: hs, x :: xs => by
    have ih := zip_lens (hs := hs) (xss := xs)
    simp only [List.map_cons, List.cons.injEq, ih, List.length_cons, List.zip_cons_cons, List.mem_cons, forall_eq_or_imp, Nat.add_right_cancel_iff]
    constructor
    · rintro ⟨a, b, c⟩; exact ⟨b, a, c⟩
    · rintro ⟨a, b, c⟩; exact ⟨b, a, c⟩
theorem rows_perm {hs hs2 : List Hdr} {xss yss : List (List α)} {L : List Asn} {h : Hp} (hl : hs2.length = yss.length) (p : (hs2.zip yss).Perm (hs.zip xss)) (s : Sat h (rows E hs xss :: L)) : Sat h (rows E hs2 yss :: L) := by
  obtain ⟨e, s⟩ := rows_iff.1 s
  refine rows_iff.2 ⟨zip_lens.2 ⟨hl, fun q hq => (zip_lens.1 e).2 q (p.mem_iff.1 hq)⟩, s.perm ?_⟩
  exact ((p.symm.map _).append_right L)
theorem sat_sub {L M : List Asn} (h : M.Sublist L) : ∀ {k : Hp}, Sat k L → Sat k M := by
  induction h with
  | slnil => exact fun s => s
  | cons a h ih => exact fun s => ih s.tail
  | cons_cons a h ih =>
    intro k s
    exact s.cons_imp (fun _ g => g) (fun _ g => ih g)
theorem rows_sub {hs hs2 : List Hdr} {xss yss : List (List α)} {L : List Asn} {h : Hp} (hl : hs2.length = yss.length) (p : (hs2.zip yss).Sublist (hs.zip xss)) (s : Sat h (rows E hs xss :: L)) : Sat h (rows E hs2 yss :: L) := by
  obtain ⟨e, s⟩ := rows_iff.1 s
  refine rows_iff.2 ⟨zip_lens.2 ⟨hl, fun q hq => (zip_lens.1 e).2 q (p.subset hq)⟩, sat_sub ?_ s⟩
  exact (p.map _).append (List.Sublist.refl L)
end
section
variable {ε : Type} (ky : ε → Int)
/-- The first ones, of each key only the first. -/
def cptN (es : List ε) : Nat → List ε
  | 0 => []
  | j + 1 => match es[j]? with
    | none => cptN es j
    | some e => if 1 ≤ j ∧ ky e = kA ky es (j - 1) then cptN es j else cptN es j ++ [e]
variable {ky}
theorem cptN_yes {es : List ε} {j : Nat} {e : ε} (h : es[j]? = some e) (h1 : 1 ≤ j) (h2 : ky e = kA ky es (j - 1)) : cptN ky es (j + 1) = cptN ky es j := by
  simp only [cptN, h]; rw [if_pos ⟨h1, h2⟩]
theorem cptN_no {es : List ε} {j : Nat} {e : ε} (h : es[j]? = some e) (h2 : ¬ (1 ≤ j ∧ ky e = kA ky es (j - 1))) : cptN ky es (j + 1) = cptN ky es j ++ [e] := by
  simp only [cptN, h]; rw [if_neg h2]
theorem cptN_sub {es : List ε} : ∀ j, j ≤ es.length → (cptN ky es j).Sublist (es.take j)
  | 0, _ => by simp [cptN]
  | j + 1, hj => by
    have ih := cptN_sub (es := es) j (by omega)
    have he : es[j]? = some es[j] := List.getElem?_eq_getElem hj
    have ht : es.take (j + 1) = es.take j ++ [es[j]] := List.take_succ_eq_append_getElem hj
    by_cases h : 1 ≤ j ∧ ky es[j] = kA ky es (j - 1)
    · rw [cptN_yes he h.1 h.2, ht]; exact ih.trans (List.sublist_append_left _ _)
    · rw [cptN_no he h, ht]; exact ih.append (List.Sublist.refl _)
theorem cptN_mem {es : List ε} (hs : srtd ky es) : ∀ j, j ≤ es.length → ∀ i x, i < j → es[i]? = some x → ∃ c ∈ cptN ky es j, ky c = ky x
  | 0, _, i, x, hi, _ => by omega
  | j + 1, hj, i, x, hi, hx => by
    have he : es[j]? = some es[j] := List.getElem?_eq_getElem hj
    by_cases h : 1 ≤ j ∧ ky es[j] = kA ky es (j - 1)
    · rw [cptN_yes he h.1 h.2]
      by_cases e : i = j
      · subst e
        rw [he] at hx
        have hx2 := Option.some.inj hx
        have h3 : es[i - 1]? = some es[i - 1] := List.getElem?_eq_getElem (by omega)
        obtain ⟨c, hc, e2⟩ := cptN_mem hs i (by omega) (i - 1) _ (by omega) h3
        exact ⟨c, hc, by rw [e2, ← hx2, h.2, kA_of h3]⟩
      · exact cptN_mem hs j (by omega) i x (by omega) hx
    · rw [cptN_no he h]
      by_cases e : i = j
      · subst e
        rw [he] at hx
        exact ⟨es[i], by simp, by rw [Option.some.inj hx]⟩
      · obtain ⟨c, hc, e2⟩ := cptN_mem hs j (by omega) i x (by omega) hx
        exact ⟨c, List.mem_append_left _ hc, e2⟩
theorem cptN_asc {es : List ε} (hs : srtd ky es) : ∀ j, j ≤ es.length → (cptN ky es j).Pairwise fun x y => ky x < ky y
  | 0, _ => by simp [cptN]
  | j + 1, hj => by
    have ih := cptN_asc hs j (by omega)
    have he : es[j]? = some es[j] := List.getElem?_eq_getElem hj
    by_cases h : 1 ≤ j ∧ ky es[j] = kA ky es (j - 1)
    · rw [cptN_yes he h.1 h.2]; exact ih
    · rw [cptN_no he h]
      refine List.pairwise_append.2 ⟨ih, List.pairwise_singleton _ _, fun a ha b hb => ?_⟩
      rw [List.mem_singleton.1 hb]
      have ha2 := (cptN_sub (ky := ky) j (by omega)).subset ha
      obtain ⟨i, hi, e⟩ := List.getElem_of_mem ha2
      rw [List.length_take] at hi
      rw [List.getElem_take] at e
      have h1 : 1 ≤ j := by omega
      have h3 : es[j - 1]? = some es[j - 1] := List.getElem?_eq_getElem (by omega)
      have h4 := get_srtd hs i (j - 1) a es[j - 1] (by omega) (by rw [← e]; exact List.getElem?_eq_getElem _) h3
      have h5 := get_srtd hs (j - 1) j es[j - 1] es[j] (by omega) h3 he
      have h6 : ky es[j] ≠ ky es[j - 1] := fun g => h ⟨h1, by rw [g, kA_of h3]⟩
      omega
end
theorem made_congr {rs : List Rg} {a b : List Int} (h : ∀ t, t ∈ a ↔ t ∈ b) : madeL rs a = madeL rs b := by
  unfold madeL; congr 1; apply List.filter_congr; intro i _; exact decide_eq_decide.2 (h _)
end Go.Proofs.Ytnhippfllgnngaa
