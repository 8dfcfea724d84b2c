/-
  A part of the proof of the claim that this folder bears.
-/
import Derived.Test.YtnhippfllgnngaaPAE
/- The text SC2. -/
set_option linter.unusedVariables false
set_option linter.unusedSimpArgs false
set_option maxRecDepth 10000
namespace Go.Proofs.Ytnhippfllgnngaa
open Go Go.KK Dm

theorem can_take_le {rs : List Rg} (h : okD rs) {k : Nat} (hk : k ≤ rs.length) : cntD ((canD rs).take k) ≤ 4096 := by
  have hne : rs ≠ [] := fun e => by have := h.1; rw [e] at this; simp at this
  have hcc := canD_cnt h.2.2.1 hne
  by_cases h0 : cntD rs = 0
  · cases k with
    | zero => rw [List.take_zero]; decide
    | succ k =>
      have hl : k < (canD rs).length := by rw [canD_len]; omega
      rw [cntD_take hl]
      have : cnt ((canD rs).getD k default) = 0 := by
        have hg := canD_get (rs := rs) (k := k) (by omega)
        rw [if_pos h0] at hg
        rw [List.getD_eq_getElem?_getD, hg]; rfl
      rw [this, Nat.mul_zero]; omega
  · have := cntD_take_le2 (rs := canD rs) (by rw [hcc]; exact h0) (k := k) (by rw [canD_len]; exact hk)
    rw [hcc] at this
    exact Nat.le_trans this h.2.2.2
theorem can_cnt_le {rs : List Rg} (h : okD rs) {r : Rg} (hr : r ∈ canD rs) : cnt r ≤ 4096 := by
  have hne : rs ≠ [] := fun e => by have := h.1; rw [e] at this; simp at this
  have hcc := canD_cnt h.2.2.1 hne
  by_cases h0 : cntD rs = 0
  · unfold canD at hr
    rw [if_pos h0] at hr
    obtain ⟨_, _, rfl⟩ := List.mem_map.1 hr
    rw [none3_cnt]; omega
  · have := cnt_dvd hr
    have := Nat.le_of_dvd (by omega) this
    have := h.2.2.2
    omega
theorem row_at {out : List (List Int)} {r : Rg} {j i : Nat} {o : List Int} (ho : out[j]? = some o) (hi : i < cnt r) : (addD out r)[j * cnt r + i]? = some (o ++ [atR r (i : Int)]) := by
  have hc : 0 < cnt r := by omega
  rw [addD_get hc]
  have e1 : (j * cnt r + i) / cnt r = j := by rw [Nat.mul_comm, Nat.mul_add_div hc, Nat.div_eq_of_lt hi]; rfl
  have e2 : (j * cnt r + i) % cnt r = i := by rw [Nat.mul_comm, Nat.mul_add_mod, Nat.mod_eq_of_lt hi]
  rw [e1, e2, ho]; rfl
theorem r_Indexes {L : List Asn} {a : Option Addr} {n cap : Nat} {rs : List Rg} [SlIn rgE L a rs] (hn : n = rs.length) :
    CallS Try.prog 129 [.agg #[.slice a n cap]].toArray L (fun v M => ∃ a' c' hs, v = .tuple #[.slice a' (ixsV rs).length c', .int .i64 (erD rs)] ∧ M = sl hE a' c' hs :: rows intE hs (ixsV rs) :: L) := by
  subst hn
  refine CallS.ent ?_
  refine CallS.enter Try.func129 rfl rfl rfl rfl rfl ?_
  refine J.seq rfl ?_
  refine J.region rfl ?_
  refine JO.eff rfl rfl rfl (Eff.box (cs := [_]) rfl rfl) ?_
  rintro _ _ ⟨b1, rfl, rfl⟩
  refine JO.pur rfl rfl rfl (Pur.assign rfl) ?_
  refine JO.pur rfl rfl rfl (Pur.assign rfl) ?_
  refine JO.nil ?_
  refine J.seq rfl ?_
  refine J.seq rfl ?_
  refine J.region rfl ?_
  refine JO.pur rfl rfl rfl (Pur.loadA rfl rfl rfl CellsIn.blk) ?_
  refine JO.effR rfl rfl rfl (Eff.call rfl (r_Valid (rs := rs) rfl)) ?_
  refine JO.pur rfl rfl rfl (Pur.not rfl) ?_
  refine JO.nil ?_
  refine J.splitB 15 rfl (fun h15 => ?_) (fun h15 => ?_)
  · try simp only [decide_eq_true_eq, decide_eq_false_iff_not, Bool.not_eq_true', Bool.not_eq_false', Bool.and_eq_true, Bool.or_eq_true, Bool.and_eq_false_iff, Bool.or_eq_false_iff, Option.isNone_some, Option.isSome_some, Option.isNone_none, Option.isSome_none, Int.not_lt, Int.not_le, beq_iff_eq, beq_eq_false_iff_ne, bne_iff_ne, ne_eq, Bool.not_not, Decidable.not_not] at h15
    have hbad : ¬ okD rs := by simpa using h15
    refine J.condT rfl rfl ?_
    refine J.seq rfl ?_
    refine J.region rfl ?_
    refine JO.pur rfl rfl rfl (Pur.assign rfl) ?_
    refine JO.pur rfl rfl rfl (Pur.assign rfl) ?_
    refine JO.nil ?_
    refine J.ret rfl rfl ?_
    refine ⟨_, _, ⟨none, 0, [], rfl, rfl⟩, ?_, fun h s => ?_⟩
    · unfold ixsV erD; rw [if_neg hbad, if_neg hbad]; rfl
    · unfold ixsV; rw [if_neg hbad]; exact sl_nil_new (rows_nil (SubC.out h s))
  · try simp only [decide_eq_true_eq, decide_eq_false_iff_not, Bool.not_eq_true', Bool.not_eq_false', Bool.and_eq_true, Bool.or_eq_true, Bool.and_eq_false_iff, Bool.or_eq_false_iff, Option.isNone_some, Option.isSome_some, Option.isNone_none, Option.isSome_none, Int.not_lt, Int.not_le, beq_iff_eq, beq_eq_false_iff_ne, bne_iff_ne, ne_eq, Bool.not_not, Decidable.not_not] at h15
    have hgood : okD rs := by simpa using h15
    have hl3 := hgood.2.1
    have hne : rs ≠ [] := fun e => by have := hgood.1; rw [e] at this; simp at this
    have hcv : cdV rs = canD rs := by unfold cdV; rw [if_pos hgood]
    have hcl : (canD rs).length = rs.length := canD_len rs
    refine J.condF rfl rfl ?_
    refine J.skip rfl ?_
    refine J.seq rfl ?_
    refine J.region rfl ?_
    refine JO.pur rfl rfl rfl (Pur.loadA rfl rfl rfl CellsIn.blk) ?_
    refine JO.eff rfl rfl rfl (Eff.call rfl (r_Canon (rs := rs) rfl)) ?_
    rintro _ _ ⟨a18, c18, rfl, rfl⟩
    rw [hcv, hcl]
    refine JO.pur rfl rfl rfl (Pur.move rfl) ?_
    refine JO.pur rfl rfl rfl (Pur.extract rfl rfl) ?_
    refine JO.pur rfl rfl rfl (Pur.extract rfl rfl) ?_
    refine JO.eff rfl rfl rfl (Eff.alloc (cs := [_]) rfl) ?_
    rintro _ _ ⟨b4, rfl, rfl⟩
    refine JO.effN rfl rfl (Eff.storeBA (cs' := [_]) rfl rfl (by rfl) (by rfl) (by rfl)) ?_
    rintro _ _ ⟨rfl, rfl⟩
    refine JO.pur rfl rfl rfl (Pur.assign rfl) ?_
    refine JO.nil ?_
    refine J.seq rfl ?_
    refine J.region rfl ?_
    refine JO.eff rfl rfl rfl (Eff.buildSlice hE [⟨none, 0, 0⟩] rfl rfl rfl rfl rfl rfl rfl) ?_
    rintro _ _ ⟨b21, rfl, -, rfl⟩
    refine JO.pur rfl rfl rfl (Pur.assign rfl) ?_
    refine JO.nil ?_
    refine J.seq rfl ?_
    refine J.seq rfl ?_
    refine J.region rfl ?_
    refine JO.pur rfl rfl rfl (Pur.assign rfl) ?_
    refine JO.nil ?_
    refine J.block rfl ?_
    refine J.loopF (ι := Nat × Option Addr × Nat × List Hdr) (fun q => q.1 ≤ rs.length ∧ q.2.2.2.length = cntD ((canD rs).take q.1)) (fun q => [(6, .slice q.2.1 (cntD ((canD rs).take q.1)) q.2.2.1), (7, .int .i64 (q.1 : Int))]) [(4, _)] (fun q => sl hE q.2.1 q.2.2.1 q.2.2.2 :: rows intE q.2.2.2 (idx ((canD rs).take q.1)) :: blk b4 (.cells #[.slice a18 rs.length c18] 24) :: sl rgE a18 c18 (canD rs) :: L) (fun q => rs.length - q.1) (0, some ⟨b21, 0, none⟩, 1, [⟨none, 0, 0⟩]) rfl (.cons rfl rfl .nil) (.cons rfl (by dsimp only; rw [List.take_zero]; rfl) (.cons rfl rfl .nil)) (fun h s => by have s2 := snoc_row (E := intE) (a := none) (n := 0) (cap := 0) (xs := []) (hs := []) (xss := []) rfl (sl_nil_new (E := intE) (rows_nil (E := intE) s)); dsimp only; rw [List.take_zero]; exact SubC.out (L := rows intE [⟨none, 0, 0⟩] (idx []) :: _) h s2) ⟨Nat.zero_le _, by dsimp only; rw [List.take_zero]; rfl⟩ ?_
    rintro ⟨k, a6, c6, hs6⟩ ⟨hk, hh6⟩ ih0
    try dsimp only
    dsimp only at hk hh6
    have hkb := can_take_le hgood hk
    refine J.seq rfl ?_
    refine J.seq rfl ?_
    refine J.region rfl ?_
    refine JO.pur rfl rfl rfl (Pur.move rfl) ?_
    refine JO.pur rfl rfl rfl (Pur.fieldAddr rfl) ?_
    refine JO.pur rfl rfl rfl (Pur.load rfl (CellIn.blk rfl)) ?_
    refine JO.pur rfl rfl rfl (Pur.len rfl) ?_
    refine JO.pur rfl rfl rfl (Pur.lss rfl rfl) ?_
    refine JO.nil ?_
    refine J.splitB 26 rfl (fun h26 => ?_) (fun h26 => ?_)
    · try simp only [decide_eq_true_eq, decide_eq_false_iff_not, Bool.not_eq_true', Bool.not_eq_false', Bool.and_eq_true, Bool.or_eq_true, Bool.and_eq_false_iff, Bool.or_eq_false_iff, Option.isNone_some, Option.isSome_some, Option.isNone_none, Option.isSome_none, Int.not_lt, Int.not_le, beq_iff_eq, beq_eq_false_iff_ne, bne_iff_ne, ne_eq, Bool.not_not, Decidable.not_not] at h26
      have hkl : k < rs.length := by omega
      have hkl2 : k < (canD rs).length := by omega
      have hxk : (canD rs)[k]? = some ((canD rs).getD k default) := by rw [List.getD_eq_getElem?_getD, List.getElem?_eq_getElem hkl2]; rfl
      have hct := cntD_take hkl2
      have hix := idx_take hkl2
      have hmem := getD_mem (d := canD rs) (k := k) hkl2
      have hol := idx_len_take (canD rs) k (by omega)
      have hkb2 := can_take_le hgood (k := k + 1) (by omega)
      generalize hrr : (canD rs).getD k default = r at *
      have hor := canD_ok hgood.2.2.1 r hmem
      have hce := cnt_eq hor
      have hcl4 := can_cnt_le hgood hmem
      have hal := addD_len (idx ((canD rs).take k)) r
      rw [hol] at hal
      rw [hct] at hkb2
      refine J.condT rfl rfl ?_
      refine J.skip rfl ?_
      refine J.seq rfl ?_
      refine J.block rfl ?_
      refine J.seq rfl ?_
      refine J.region rfl ?_
      refine JO.pur rfl rfl rfl (Pur.fieldAddr rfl) ?_
      refine JO.pur rfl rfl rfl (Pur.load rfl (CellIn.blk rfl)) ?_
      refine JO.pur rfl rfl rfl (Pur.move rfl) ?_
      refine JO.pur rfl rfl rfl (Pur.idx rfl rfl rfl (by first | rfl | (simp; done) | omega) rfl (by omega)) ?_
      refine JO.pur rfl rfl rfl (Pur.loadA rfl rfl rfl (CellsIn.el rfl hxk)) ?_
      refine JO.setv (u' := rgV r) 34 rfl rfl ?_
      refine JO.eff rfl rfl rfl (Eff.call rfl (r3_Members hor (by omega))) ?_
      rintro _ _ ⟨a35, c35, rfl, rfl⟩
      refine JO.pur rfl rfl rfl (Pur.move rfl) ?_
      refine JO.pur rfl rfl rfl (Pur.extract rfl rfl) ?_
      refine JO.setv (u' := .slice a35 (cnt r) c35) 36 rfl (congrArg (fun z => Value.slice a35 z c35) (memR_len r)) ?_
      refine JO.pur rfl rfl rfl (Pur.extract rfl rfl) ?_
      refine JO.pur rfl rfl rfl (Pur.assign rfl) ?_
      refine JO.pur rfl rfl rfl (Pur.assign rfl) ?_
      refine JO.nil ?_
      refine J.seq rfl ?_
      refine J.region rfl ?_
      refine JO.pur rfl rfl rfl (Pur.assign rfl) ?_
      refine JO.nil ?_
      refine J.seq rfl ?_
      refine J.seq rfl ?_
      refine J.region rfl ?_
      refine JO.pur rfl rfl rfl (Pur.assign rfl) ?_
      refine JO.nil ?_
      refine J.block rfl ?_
      refine J.loopF (ι := Nat × Option Addr × Nat × List Hdr) (fun q => q.1 ≤ cntD ((canD rs).take k) ∧ q.2.2.2.length = q.1 * cnt r) (fun q => [(10, .slice q.2.1 (q.1 * cnt r) q.2.2.1), (11, .int .i64 (q.1 : Int))]) [(4, _), (6, _), (7, _), (8, _)] (fun q => sl hE q.2.1 q.2.2.1 q.2.2.2 :: rows intE q.2.2.2 ((addD (idx ((canD rs).take k)) r).take (q.1 * cnt r)) :: sl hE a6 c6 hs6 :: rows intE hs6 (idx ((canD rs).take k)) :: sl intE a35 c35 (memR r) :: blk b4 (.cells #[.slice a18 rs.length c18] 24) :: sl rgE a18 c18 (canD rs) :: L) (fun q => cntD ((canD rs).take k) - q.1) (0, none, 0, []) rfl (.cons rfl rfl (.cons rfl rfl (.cons rfl rfl (.cons rfl rfl .nil)))) (.cons rfl (by dsimp only; rw [Nat.zero_mul]) (.cons rfl rfl .nil)) (fun h s => by have s2 := sl_nil_new (E := hE) (rows_nil (E := intE) s); dsimp only; rw [Nat.zero_mul, List.take_zero]; exact SubC.out (L := sl hE none 0 [] :: rows intE [] [] :: _) h s2) ⟨Nat.zero_le _, by simp⟩ ?_
      rintro ⟨j, a10, c10, hs10⟩ ⟨hj, hh10⟩ ihj
      try dsimp only
      dsimp only at hj hh10
      refine J.seq rfl ?_
      refine J.seq rfl ?_
      refine J.region rfl ?_
      refine JO.pur rfl rfl rfl (Pur.move rfl) ?_
      refine JO.pur rfl rfl rfl (Pur.move rfl) ?_
      refine JO.pur rfl rfl rfl (Pur.len rfl) ?_
      refine JO.pur rfl rfl rfl (Pur.lss rfl rfl) ?_
      refine JO.nil ?_
      refine J.splitB 41 rfl (fun h41 => ?_) (fun h41 => ?_)
      · try simp only [decide_eq_true_eq, decide_eq_false_iff_not, Bool.not_eq_true', Bool.not_eq_false', Bool.and_eq_true, Bool.or_eq_true, Bool.and_eq_false_iff, Bool.or_eq_false_iff, Option.isNone_some, Option.isSome_some, Option.isNone_none, Option.isSome_none, Int.not_lt, Int.not_le, beq_iff_eq, beq_eq_false_iff_ne, bne_iff_ne, ne_eq, Bool.not_not, Decidable.not_not] at h41
        have hjl : j < cntD ((canD rs).take k) := by omega
        have hsm : (j + 1) * cnt r = j * cnt r + cnt r := Nat.succ_mul _ _
        have hjm : (j + 1) * cnt r ≤ cntD ((canD rs).take k) * cnt r := Nat.mul_le_mul_right _ hjl
        obtain ⟨o1, ho1⟩ : ∃ o1, (idx ((canD rs).take k))[j]? = some o1 := ⟨_, List.getElem?_eq_getElem (by omega)⟩
        obtain ⟨hd, hH⟩ : ∃ hd, hs6[j]? = some hd := ⟨_, List.getElem?_eq_getElem (by omega)⟩
        have hol1 : o1.length = k := idx_row_len (d := canD rs) (n := j) (by omega) ho1
        refine J.condT rfl rfl ?_
        refine J.skip rfl ?_
        refine J.seq rfl ?_
        refine J.block rfl ?_
        refine J.seq rfl ?_
        refine J.region rfl ?_
        refine JO.pur rfl rfl rfl (Pur.assign rfl) ?_
        refine JO.nil ?_
        refine J.block rfl ?_
        refine J.loopF (ι := Nat × Option Addr × Nat × List Hdr) (fun q => q.1 ≤ cnt r ∧ q.2.2.2.length = j * cnt r + q.1) (fun q => [(10, .slice q.2.1 (j * cnt r + q.1) q.2.2.1), (12, .int .i64 (q.1 : Int))]) [(4, _), (6, _), (7, _), (8, _), (11, _)] (fun q => sl hE q.2.1 q.2.2.1 q.2.2.2 :: rows intE q.2.2.2 ((addD (idx ((canD rs).take k)) r).take (j * cnt r + q.1)) :: sl hE a6 c6 hs6 :: rows intE hs6 (idx ((canD rs).take k)) :: sl intE a35 c35 (memR r) :: blk b4 (.cells #[.slice a18 rs.length c18] 24) :: sl rgE a18 c18 (canD rs) :: L) (fun q => cnt r - q.1) (0, a10, c10, hs10) rfl (.cons rfl rfl (.cons rfl rfl (.cons rfl rfl (.cons rfl rfl (.cons rfl rfl .nil))))) (.cons rfl rfl (.cons rfl rfl .nil)) (by first | exact fun _ h => h | exact SubC.out | (dsimp only; exact SubC.out)) ⟨Nat.zero_le _, by dsimp only; omega⟩ ?_
        rintro ⟨i, a11, c11, hs11⟩ ⟨hi, hh11⟩ ihi
        try dsimp only
        dsimp only at hi hh11
        refine J.seq rfl ?_
        refine J.seq rfl ?_
        refine J.region rfl ?_
        refine JO.pur rfl rfl rfl (Pur.move rfl) ?_
        refine JO.pur rfl rfl rfl (Pur.move rfl) ?_
        refine JO.pur rfl rfl rfl (Pur.len rfl) ?_
        refine JO.pur rfl rfl rfl (Pur.lss rfl rfl) ?_
        refine JO.nil ?_
        refine J.splitB 47 rfl (fun h47 => ?_) (fun h47 => ?_)
        · try simp only [decide_eq_true_eq, decide_eq_false_iff_not, Bool.not_eq_true', Bool.not_eq_false', Bool.and_eq_true, Bool.or_eq_true, Bool.and_eq_false_iff, Bool.or_eq_false_iff, Option.isNone_some, Option.isSome_some, Option.isNone_none, Option.isSome_none, Int.not_lt, Int.not_le, beq_iff_eq, beq_eq_false_iff_ne, bne_iff_ne, ne_eq, Bool.not_not, Decidable.not_not] at h47
          have hil : i < cnt r := by omega
          have hap2 : (addD (idx ((canD rs).take k)) r).take (j * cnt r + (i + 1)) = (addD (idx ((canD rs).take k)) r).take (j * cnt r + i) ++ [[] ++ o1 ++ [atR r (i : Int)]] := take_get (row_at ho1 hil)
          have hmg := memR_get hil
          have hmL := memR_len r
          refine J.condT rfl rfl ?_
          refine J.skip rfl ?_
          refine J.seq rfl ?_
          refine J.block rfl ?_
          refine J.fact (fun h s => RowsR.len (E := intE) (hs := hs6) (xss := idx ((canD rs).take k)) s) fun hnn => ?_
          have hdn := hdr_n hnn hH ho1
          refine J.fact (fun h s => RowsR.fit (E := intE) (hs := hs6) (xss := idx ((canD rs).take k)) s hH ho1) fun hfit => ?_
          refine J.mask1 (n := 16) [] rfl Try.mixed rfl (by kernel_rfl) ?_
          refine JM.take 0 (fun _ h => h.tail) rfl (by kernel_rfl) rfl rfl rfl (m' := 1) rfl (Pur.move rfl) ?_
          refine JM.take 2 (fun _ h => h.tail) rfl (by kernel_rfl) rfl rfl rfl (m' := 5) rfl (Pur.move rfl) ?_
          refine JM.take 3 (fun _ h => h.tail) rfl (by kernel_rfl) rfl rfl rfl (m' := 13) rfl (Pur.move rfl) ?_
          refine JM.take 4 (fun _ h => h.tail) rfl (by kernel_rfl) rfl rfl rfl (m' := 29) rfl (Pur.idx rfl rfl rfl (by first | rfl | (simp; done) | omega) rfl (by omega)) ?_
          refine JM.take 5 (fun _ h => h.tail) rfl (by kernel_rfl) rfl rfl rfl (m' := 61) rfl (Pur.load rfl (CellIn.el0 rfl hH rfl)) ?_
          refine JM.take 7 (fun _ h => h.tail) rfl (by kernel_rfl) rfl rfl rfl (m' := 189) rfl (Pur.move rfl) ?_
          refine JM.take 8 (fun _ h => h.tail) rfl (by kernel_rfl) rfl rfl rfl (m' := 445) rfl (Pur.move rfl) ?_
          refine JM.take 9 (fun _ h => h.tail) rfl (by kernel_rfl) rfl rfl rfl (m' := 957) rfl (Pur.idx rfl rfl rfl (by first | rfl | (simp; done) | omega) rfl (by omega)) ?_
          refine JM.take 10 (fun _ h => h.tail) rfl (by kernel_rfl) rfl rfl rfl (m' := 1981) rfl (Pur.load rfl (CellIn.el0 rfl hmg rfl)) ?_
          refine JM.setv (u' := .int .i64 (atR r (i : Int))) 60 rfl rfl ?_
          refine JM.many (rs := [1, 11]) (by kernel_rfl) rfl (fun i hi => ?_)
          simp only [List.mem_cons, List.not_mem_nil, or_false] at hi
          rcases hi with rfl | rfl
          · skip
            refine JMi.eff rfl rfl rfl rfl (m' := 1983) rfl (Eff.buildSlice intE ([] : List Int) rfl rfl rfl rfl rfl rfl rfl) ?_
            rintro _ _ ⟨b51, rfl, -, rfl⟩
            refine ⟨.inr (fun _ h => h.tail.tail), ?_⟩
            refine JM.many (rs := [6, 11]) (by kernel_rfl) rfl (fun i hi => ?_)
            simp only [List.mem_cons, List.not_mem_nil, or_false] at hi
            rcases hi with rfl | rfl
            · skip
              refine JMi.eff rfl rfl rfl rfl (m' := 2047) rfl (Eff.append (hi := RowsR.row (E := intE) inferInstance hH ho1) rfl rfl rfl rfl rfl hdn (by decide) (by simp; omega) (by simp; omega) hfit.1) ?_
              rintro _ _ ⟨a56, c56, rfl, rfl⟩
              refine ⟨.inr (fun _ h => h.tail.tail), ?_⟩
              refine JM.one (i := 11) (by kernel_rfl) ?_
              refine JMi.eff rfl rfl rfl rfl (m' := 4095) rfl (Eff.buildSlice intE [atR r (i : Int)] rfl rfl rfl rfl rfl rfl rfl) ?_
              rintro _ _ ⟨b61, rfl, -, rfl⟩
              refine ⟨.inr (fun _ h => h.tail.tail.tail), ?_⟩
              refine JM.one (i := 12) (by kernel_rfl) ?_
              refine JMi.eff rfl rfl rfl rfl (m' := 8191) rfl (Eff.append rfl rfl rfl rfl (by first | rfl | omega | (simp; done) | (simp; omega)) (by first | rfl | omega | (simp; done) | (simp; omega)) (by decide) (by simp; omega) (by simp; omega) (fun h => by cases h)) ?_
              rintro _ _ ⟨a62, c62, rfl, rfl⟩
              refine ⟨.inr (fun _ h => h.tail.tail.tail), ?_⟩
              refine JM.one (i := 13) (by kernel_rfl) ?_
              refine JMi.eff rfl rfl rfl rfl (m' := 16383) rfl (Eff.buildSlice hE [⟨a62, (([] ++ o1).length + [atR r (i : Int)].length), c62⟩] rfl rfl rfl rfl rfl rfl rfl) ?_
              rintro _ _ ⟨b63, rfl, -, rfl⟩
              refine ⟨.inr (fun _ h => h.tail.tail.tail.tail), ?_⟩
              refine JM.one (i := 14) (by kernel_rfl) ?_
              refine JMi.eff rfl rfl rfl rfl (m' := 32767) rfl (Eff.append rfl rfl rfl rfl (by first | rfl | omega | (simp; done) | (simp; omega)) (by first | rfl | omega | (simp; done) | (simp; omega)) (by decide) (by simp; omega) (by simp; omega) (fun h => by cases h)) ?_
              rintro _ _ ⟨a64, c64, rfl, rfl⟩
              refine ⟨.inr (fun _ h => h.tail.tail.tail.tail), ?_⟩
              refine JM.take 15 (fun _ h => h.tail.tail.tail.tail) rfl (by kernel_rfl) rfl rfl rfl (m' := 65535) rfl (Pur.assign rfl) ?_
              refine JM.done rfl ?_
              refine J.inBlock ?_
              refine J.region rfl ?_
              refine JO.pur rfl rfl rfl (Pur.move rfl) ?_
              refine JO.pur rfl rfl rfl (Pur.add rfl rfl (wr64 (by omega))) ?_
              refine JO.pur rfl rfl rfl (Pur.assign rfl) ?_
              refine JO.nil ?_
              exact J.weaken (.cons rfl (by show Value.slice a64 _ c64 = Value.slice a64 (j * cnt r + (i + 1)) c64; rw [hh11]; rfl) (.cons rfl (congrArg (Value.int .i64) (by first | rfl | (dsimp only; omega))) (.cons rfl rfl (.cons rfl rfl (.cons rfl rfl (.cons rfl rfl (.cons rfl rfl .nil))))))) (fun h s => by have s2 := snoc_row (E := intE) (a := a62) (n := (([] ++ o1).length + [atR r (i : Int)].length)) (cap := c62) (xs := [] ++ o1 ++ [atR r (i : Int)]) (hs := hs11) (xss := (addD (idx ((canD rs).take k)) r).take (j * cnt r + i)) (by simp) s; rw [← hap2] at s2; dsimp only; exact SubC.out h s2) (ihi (i + 1, a64, c64, hs11 ++ [⟨a62, (([] ++ o1).length + [atR r (i : Int)].length), c62⟩]) ⟨by dsimp only; omega, by simp [hh11]; omega⟩ (by dsimp only; omega))
            · skip
              refine JMi.eff rfl rfl rfl rfl (m' := 4031) rfl (Eff.buildSlice intE [atR r (i : Int)] rfl rfl rfl rfl rfl rfl rfl) ?_
              rintro _ _ ⟨b61, rfl, -, rfl⟩
              refine ⟨.inr (fun _ h => h.tail.tail.tail), ?_⟩
              refine JM.one (i := 6) (by kernel_rfl) ?_
              refine JMi.eff rfl rfl rfl rfl (m' := 4095) rfl (Eff.append (hi := RowsR.row (E := intE) inferInstance hH ho1) rfl rfl rfl rfl rfl hdn (by decide) (by simp; omega) (by simp; omega) hfit.1) ?_
              rintro _ _ ⟨a56, c56, rfl, rfl⟩
              refine ⟨.inr (fun _ h => h.tail.tail.tail), ?_⟩
              refine JM.one (i := 12) (by kernel_rfl) ?_
              refine JMi.eff rfl rfl rfl rfl (m' := 8191) rfl (Eff.append rfl rfl rfl rfl (by first | rfl | omega | (simp; done) | (simp; omega)) (by first | rfl | omega | (simp; done) | (simp; omega)) (by decide) (by simp; omega) (by simp; omega) (fun h => by cases h)) ?_
              rintro _ _ ⟨a62, c62, rfl, rfl⟩
              refine ⟨.inr (fun _ h => h.tail.tail.tail), ?_⟩
              refine JM.one (i := 13) (by kernel_rfl) ?_
              refine JMi.eff rfl rfl rfl rfl (m' := 16383) rfl (Eff.buildSlice hE [⟨a62, (([] ++ o1).length + [atR r (i : Int)].length), c62⟩] rfl rfl rfl rfl rfl rfl rfl) ?_
              rintro _ _ ⟨b63, rfl, -, rfl⟩
              refine ⟨.inr (fun _ h => h.tail.tail.tail.tail), ?_⟩
              refine JM.one (i := 14) (by kernel_rfl) ?_
              refine JMi.eff rfl rfl rfl rfl (m' := 32767) rfl (Eff.append rfl rfl rfl rfl (by first | rfl | omega | (simp; done) | (simp; omega)) (by first | rfl | omega | (simp; done) | (simp; omega)) (by decide) (by simp; omega) (by simp; omega) (fun h => by cases h)) ?_
              rintro _ _ ⟨a64, c64, rfl, rfl⟩
              refine ⟨.inr (fun _ h => h.tail.tail.tail.tail), ?_⟩
              refine JM.take 15 (fun _ h => h.tail.tail.tail.tail) rfl (by kernel_rfl) rfl rfl rfl (m' := 65535) rfl (Pur.assign rfl) ?_
              refine JM.done rfl ?_
              refine J.inBlock ?_
              refine J.region rfl ?_
              refine JO.pur rfl rfl rfl (Pur.move rfl) ?_
              refine JO.pur rfl rfl rfl (Pur.add rfl rfl (wr64 (by omega))) ?_
              refine JO.pur rfl rfl rfl (Pur.assign rfl) ?_
              refine JO.nil ?_
              exact J.weaken (.cons rfl (by show Value.slice a64 _ c64 = Value.slice a64 (j * cnt r + (i + 1)) c64; rw [hh11]; rfl) (.cons rfl (congrArg (Value.int .i64) (by first | rfl | (dsimp only; omega))) (.cons rfl rfl (.cons rfl rfl (.cons rfl rfl (.cons rfl rfl (.cons rfl rfl .nil))))))) (fun h s => by have s2 := snoc_row (E := intE) (a := a62) (n := (([] ++ o1).length + [atR r (i : Int)].length)) (cap := c62) (xs := [] ++ o1 ++ [atR r (i : Int)]) (hs := hs11) (xss := (addD (idx ((canD rs).take k)) r).take (j * cnt r + i)) (by simp) s; rw [← hap2] at s2; dsimp only; exact SubC.out h s2) (ihi (i + 1, a64, c64, hs11 ++ [⟨a62, (([] ++ o1).length + [atR r (i : Int)].length), c62⟩]) ⟨by dsimp only; omega, by simp [hh11]; omega⟩ (by dsimp only; omega))
          · skip
            refine JMi.eff rfl rfl rfl rfl (m' := 4029) rfl (Eff.buildSlice intE [atR r (i : Int)] rfl rfl rfl rfl rfl rfl rfl) ?_
            rintro _ _ ⟨b61, rfl, -, rfl⟩
            refine ⟨.inr (fun _ h => h.tail.tail), ?_⟩
            refine JM.one (i := 1) (by kernel_rfl) ?_
            refine JMi.eff rfl rfl rfl rfl (m' := 4031) rfl (Eff.buildSlice intE ([] : List Int) rfl rfl rfl rfl rfl rfl rfl) ?_
            rintro _ _ ⟨b51, rfl, -, rfl⟩
            refine ⟨.inr (fun _ h => h.tail.tail.tail), ?_⟩
            refine JM.one (i := 6) (by kernel_rfl) ?_
            refine JMi.eff rfl rfl rfl rfl (m' := 4095) rfl (Eff.append (hi := RowsR.row (E := intE) inferInstance hH ho1) rfl rfl rfl rfl rfl hdn (by decide) (by simp; omega) (by simp; omega) hfit.1) ?_
            rintro _ _ ⟨a56, c56, rfl, rfl⟩
            refine ⟨.inr (fun _ h => h.tail.tail.tail), ?_⟩
            refine JM.one (i := 12) (by kernel_rfl) ?_
            refine JMi.eff rfl rfl rfl rfl (m' := 8191) rfl (Eff.append rfl rfl rfl rfl (by first | rfl | omega | (simp; done) | (simp; omega)) (by first | rfl | omega | (simp; done) | (simp; omega)) (by decide) (by simp; omega) (by simp; omega) (fun h => by cases h)) ?_
            rintro _ _ ⟨a62, c62, rfl, rfl⟩
            refine ⟨.inr (fun _ h => h.tail.tail.tail), ?_⟩
            refine JM.one (i := 13) (by kernel_rfl) ?_
            refine JMi.eff rfl rfl rfl rfl (m' := 16383) rfl (Eff.buildSlice hE [⟨a62, (([] ++ o1).length + [atR r (i : Int)].length), c62⟩] rfl rfl rfl rfl rfl rfl rfl) ?_
            rintro _ _ ⟨b63, rfl, -, rfl⟩
            refine ⟨.inr (fun _ h => h.tail.tail.tail.tail), ?_⟩
            refine JM.one (i := 14) (by kernel_rfl) ?_
            refine JMi.eff rfl rfl rfl rfl (m' := 32767) rfl (Eff.append rfl rfl rfl rfl (by first | rfl | omega | (simp; done) | (simp; omega)) (by first | rfl | omega | (simp; done) | (simp; omega)) (by decide) (by simp; omega) (by simp; omega) (fun h => by cases h)) ?_
            rintro _ _ ⟨a64, c64, rfl, rfl⟩
            refine ⟨.inr (fun _ h => h.tail.tail.tail.tail), ?_⟩
            refine JM.take 15 (fun _ h => h.tail.tail.tail.tail) rfl (by kernel_rfl) rfl rfl rfl (m' := 65535) rfl (Pur.assign rfl) ?_
            refine JM.done rfl ?_
            refine J.inBlock ?_
            refine J.region rfl ?_
            refine JO.pur rfl rfl rfl (Pur.move rfl) ?_
            refine JO.pur rfl rfl rfl (Pur.add rfl rfl (wr64 (by omega))) ?_
            refine JO.pur rfl rfl rfl (Pur.assign rfl) ?_
            refine JO.nil ?_
            exact J.weaken (.cons rfl (by show Value.slice a64 _ c64 = Value.slice a64 (j * cnt r + (i + 1)) c64; rw [hh11]; rfl) (.cons rfl (congrArg (Value.int .i64) (by first | rfl | (dsimp only; omega))) (.cons rfl rfl (.cons rfl rfl (.cons rfl rfl (.cons rfl rfl (.cons rfl rfl .nil))))))) (fun h s => by have s2 := snoc_row (E := intE) (a := a62) (n := (([] ++ o1).length + [atR r (i : Int)].length)) (cap := c62) (xs := [] ++ o1 ++ [atR r (i : Int)]) (hs := hs11) (xss := (addD (idx ((canD rs).take k)) r).take (j * cnt r + i)) (by simp) s; rw [← hap2] at s2; dsimp only; exact SubC.out h s2) (ihi (i + 1, a64, c64, hs11 ++ [⟨a62, (([] ++ o1).length + [atR r (i : Int)].length), c62⟩]) ⟨by dsimp only; omega, by simp [hh11]; omega⟩ (by dsimp only; omega))
        · try simp only [decide_eq_true_eq, decide_eq_false_iff_not, Bool.not_eq_true', Bool.not_eq_false', Bool.and_eq_true, Bool.or_eq_true, Bool.and_eq_false_iff, Bool.or_eq_false_iff, Option.isNone_some, Option.isSome_some, Option.isNone_none, Option.isSome_none, Int.not_lt, Int.not_le, beq_iff_eq, beq_eq_false_iff_ne, bne_iff_ne, ne_eq, Bool.not_not, Decidable.not_not] at h47
          have hii : i = cnt r := by omega
          have hjn : j * cnt r + i = (j + 1) * cnt r := by rw [hsm, hii]
          refine J.condF rfl rfl ?_
          refine J.exit rfl rfl ?_
          refine J.inBlock ?_
          refine J.region rfl ?_
          refine JO.pur rfl rfl rfl (Pur.move rfl) ?_
          refine JO.pur rfl rfl rfl (Pur.add rfl rfl (wr64 (by omega))) ?_
          refine JO.pur rfl rfl rfl (Pur.assign rfl) ?_
          refine JO.nil ?_
          exact J.weaken (.cons rfl (by dsimp only; rw [← hjn]) (.cons rfl (congrArg (Value.int .i64) (by first | rfl | (dsimp only; omega))) (.cons rfl rfl (.cons rfl rfl (.cons rfl rfl (.cons rfl rfl .nil)))))) (fun h s => by dsimp only; rw [← hjn]; exact SubC.out h s) (ihj (j + 1, a11, c11, hs11) ⟨by dsimp only; omega, by dsimp only; rw [← hjn]; exact hh11⟩ (by dsimp only; omega))
      · try simp only [decide_eq_true_eq, decide_eq_false_iff_not, Bool.not_eq_true', Bool.not_eq_false', Bool.and_eq_true, Bool.or_eq_true, Bool.and_eq_false_iff, Bool.or_eq_false_iff, Option.isNone_some, Option.isSome_some, Option.isNone_none, Option.isSome_none, Int.not_lt, Int.not_le, beq_iff_eq, beq_eq_false_iff_ne, bne_iff_ne, ne_eq, Bool.not_not, Decidable.not_not] at h41
        have hjj : j = cntD ((canD rs).take k) := by omega
        have hfull : (addD (idx ((canD rs).take k)) r).take (cntD ((canD rs).take k) * cnt r) = addD (idx ((canD rs).take k)) r := by rw [← hal, List.take_length]
        refine J.condF rfl rfl ?_
        refine J.exit rfl rfl ?_
        refine J.region rfl ?_
        refine JO.pur rfl rfl rfl (Pur.move rfl) ?_
        refine JO.pur rfl rfl rfl (Pur.assign rfl) ?_
        refine JO.nil ?_
        refine J.inBlock ?_
        refine J.region rfl ?_
        refine JO.pur rfl rfl rfl (Pur.move rfl) ?_
        refine JO.pur rfl rfl rfl (Pur.add rfl rfl (wr64 (by omega))) ?_
        refine JO.pur rfl rfl rfl (Pur.assign rfl) ?_
        refine JO.nil ?_
        exact J.weaken (.cons rfl (by dsimp only; rw [hct, hjj]) (.cons rfl (congrArg (Value.int .i64) (by first | rfl | (dsimp only; omega))) (.cons rfl rfl .nil))) (fun h s => by rw [hjj, hfull] at s; rw [hix]; exact SubC.out h s) (ih0 (k + 1, a10, c10, hs10) ⟨by dsimp only; omega, by dsimp only; rw [hct, hh10, hjj]⟩ (by dsimp only; omega))
    · try simp only [decide_eq_true_eq, decide_eq_false_iff_not, Bool.not_eq_true', Bool.not_eq_false', Bool.and_eq_true, Bool.or_eq_true, Bool.and_eq_false_iff, Bool.or_eq_false_iff, Option.isNone_some, Option.isSome_some, Option.isNone_none, Option.isSome_none, Int.not_lt, Int.not_le, beq_iff_eq, beq_eq_false_iff_ne, bne_iff_ne, ne_eq, Bool.not_not, Decidable.not_not] at h26
      have hke : k = rs.length := by omega
      have hidx : idx ((canD rs).take k) = idx rs := by rw [hke, ← hcl, List.take_length]; exact canD_idx hgood.2.2.1 hne
      have hcnt : cntD ((canD rs).take k) = (idx rs).length := by rw [← idx_len_take (canD rs) k (by omega), hidx]
      refine J.condF rfl rfl ?_
      refine J.exit rfl rfl ?_
      refine J.seq rfl ?_
      refine J.region rfl ?_
      refine JO.pur rfl rfl rfl (Pur.move rfl) ?_
      refine JO.pur rfl rfl rfl (Pur.assign rfl) ?_
      refine JO.pur rfl rfl rfl (Pur.assign rfl) ?_
      refine JO.nil ?_
      refine J.ret rfl rfl ?_
      have hv : ixsV rs = idx rs := by unfold ixsV; rw [if_pos hgood]
      refine ⟨_, _, ⟨a6, c6, hs6, rfl, rfl⟩, by rw [hv, hcnt]; unfold erD; rw [if_pos hgood]; rfl, fun h s => ?_⟩
      rw [hv]
      rw [hidx] at s
      exact SubC.out h s

end Go.Proofs.Ytnhippfllgnngaa

/- The text SC3. -/
set_option linter.unusedVariables false
set_option linter.unusedSimpArgs false
set_option maxRecDepth 10000
namespace Go.Proofs.Ytnhippfllgnngaa
open Go Go.KK Dm

/-- A list of which i at each end have changed places. -/
def rvL {α : Type} [Inhabited α] (xs : List α) (i : Nat) : List α := (List.range xs.length).map fun k => if k < i ∨ xs.length - 1 - k < i then xs.getD (xs.length - 1 - k) default else xs.getD k default
theorem rvL_len {α : Type} [Inhabited α] (xs : List α) (i : Nat) : (rvL xs i).length = xs.length := by simp [rvL]
theorem getD_some {α : Type} [Inhabited α] {xs : List α} {k : Nat} (h : k < xs.length) : xs[k]? = some (xs.getD k default) := by
  rw [List.getD_eq_getElem?_getD, List.getElem?_eq_getElem h]; rfl
theorem rvL_get {α : Type} [Inhabited α] {xs : List α} {i k : Nat} (h : k < xs.length) : (rvL xs i)[k]? = some (if k < i ∨ xs.length - 1 - k < i then xs.getD (xs.length - 1 - k) default else xs.getD k default) := by
  unfold rvL; rw [List.getElem?_map, List.getElem?_range h]; rfl
theorem rvL_zero {α : Type} [Inhabited α] (xs : List α) : rvL xs 0 = xs := by
  apply List.ext_getElem?
  intro k
  by_cases h : k < xs.length
  · rw [rvL_get h, if_neg (by omega), getD_some h]
  · rw [List.getElem?_eq_none (by rw [rvL_len]; omega), List.getElem?_eq_none (by omega)]
theorem rvL_step {α : Type} [Inhabited α] {xs : List α} {i : Nat} (h : i < xs.length - 1 - i) : ((rvL xs i).set i (xs.getD (xs.length - 1 - i) default)).set (xs.length - 1 - i) (xs.getD i default) = rvL xs (i + 1) := by
  apply List.ext_getElem?
  intro k
  by_cases hk : k < xs.length
  · rw [List.getElem?_set, List.getElem?_set, rvL_get hk, rvL_get hk, List.length_set, rvL_len]
    by_cases e1 : xs.length - 1 - i = k
    · rw [if_pos e1, if_pos (by omega), if_pos (by omega), show xs.length - 1 - k = i by omega]
    · rw [if_neg e1]
      by_cases e2 : i = k
      · rw [if_pos e2, if_pos (by omega), if_pos (by omega), e2]
      · rw [if_neg e2]
        congr 1
        by_cases h3 : k < i ∨ xs.length - 1 - k < i
        · rw [if_pos h3, if_pos (by omega)]
        · rw [if_neg h3, if_neg (by omega)]
  · rw [List.getElem?_eq_none (by simp [rvL_len]; omega), List.getElem?_eq_none (by rw [rvL_len]; omega)]
theorem rvL_all {α : Type} [Inhabited α] {xs : List α} {i : Nat} (h : xs.length - 1 - i ≤ i) : rvL xs i = xs.reverse := by
  apply List.ext_getElem?
  intro k
  by_cases hk : k < xs.length
  · rw [rvL_get hk, List.getElem?_reverse hk]
    by_cases h3 : k < i ∨ xs.length - 1 - k < i
    · rw [if_pos h3, getD_some (by omega)]
    · rw [if_neg h3, show xs.length - 1 - k = k by omega, getD_some hk]
  · rw [List.getElem?_eq_none (by rw [rvL_len]; omega), List.getElem?_eq_none (by simp; omega)]
theorem revR_ok {L : List Asn} {a : Option Addr} {n cap : Nat} {xs : List Rg} (hn : n = xs.length) (hb : xs.length ≤ 17592186044416) :
    CallS Try.prog 158 [.slice a n cap].toArray (sl rgE a cap xs :: L) (fun v M => v = .tuple #[] ∧ M = sl rgE a cap xs.reverse :: L) := by
  subst hn
  refine CallS.ent ?_
  refine CallS.enter Try.func158 rfl rfl rfl rfl rfl ?_
  refine J.seq rfl ?_
  refine J.region rfl ?_
  refine JO.pur rfl rfl rfl (Pur.move rfl) ?_
  refine JO.pur rfl rfl rfl (Pur.len rfl) ?_
  refine JO.pur rfl rfl rfl (Pur.sub rfl rfl (wr64 (by omega))) ?_
  refine JO.pur rfl rfl rfl (Pur.assign rfl) ?_
  refine JO.pur rfl rfl rfl (Pur.assign rfl) ?_
  refine JO.nil ?_
  refine J.block rfl ?_
  refine J.loopF (ι := Nat) (fun q => q ≤ xs.length) (fun q => [(2, .int .i64 (q : Int)), (3, .int .i64 ((xs.length : Int) - 1 - q))]) [(0, _)] (fun q => sl rgE a cap (rvL xs q) :: L) (fun q => xs.length - q) 0 rfl (.cons rfl rfl .nil) (.cons rfl rfl (.cons rfl (congrArg (Value.int .i64) (by omega)) .nil)) (fun h s => by rw [rvL_zero]; exact SubC.out h s) (Nat.zero_le _) ?_
  rintro k hk ih0
  try dsimp only
  refine J.seq rfl ?_
  refine J.seq rfl ?_
  refine J.region rfl ?_
  refine JO.pur rfl rfl rfl (Pur.move rfl) ?_
  refine JO.pur rfl rfl rfl (Pur.move rfl) ?_
  refine JO.pur rfl rfl rfl (Pur.lss rfl rfl) ?_
  refine JO.nil ?_
  refine J.splitB 9 rfl (fun h9 => ?_) (fun h9 => ?_)
  · try simp only [decide_eq_true_eq, decide_eq_false_iff_not, Bool.not_eq_true', Bool.not_eq_false', Bool.and_eq_true, Bool.or_eq_true, Bool.and_eq_false_iff, Bool.or_eq_false_iff, Option.isNone_some, Option.isSome_some, Option.isNone_none, Option.isSome_none, Int.not_lt, Int.not_le, beq_iff_eq, beq_eq_false_iff_ne, bne_iff_ne, ne_eq, Bool.not_not, Decidable.not_not] at h9
    have hkl : k < xs.length - 1 - k := by omega
    have hst := rvL_step hkl
    have hrl := rvL_len xs k
    have hxk : (rvL xs k)[k]? = some (xs.getD k default) := by rw [rvL_get (by omega), if_neg (by omega)]
    have hxj : (rvL xs k)[xs.length - 1 - k]? = some (xs.getD (xs.length - 1 - k) default) := by rw [rvL_get (by omega), if_neg (by omega)]
    have hjj : (xs.length : Int) - 1 - (k : Int) = ((xs.length - 1 - k : Nat) : Int) := by omega
    refine J.condT rfl rfl ?_
    refine J.skip rfl ?_
    refine J.seq rfl ?_
    refine J.block rfl ?_
    refine J.mask0 (n := 16) [13, 15] rfl Try.mixed rfl (by kernel_rfl) ?_
    refine JM.take 0 (fun _ h => h) rfl (by kernel_rfl) rfl rfl rfl (m' := 1) rfl (Pur.move rfl) ?_
    refine JM.take 1 (fun _ h => h) rfl (by kernel_rfl) rfl rfl rfl (m' := 3) rfl (Pur.move rfl) ?_
    refine JM.take 4 (fun _ h => h) rfl (by kernel_rfl) rfl rfl rfl (m' := 19) rfl (Pur.move rfl) ?_
    refine JM.take 5 (fun _ h => h) rfl (by kernel_rfl) rfl rfl rfl (m' := 51) rfl (Pur.move rfl) ?_
    refine JM.take 6 (fun _ h => h) rfl (by kernel_rfl) rfl rfl rfl (m' := 115) rfl (Pur.idx rfl rfl rfl (by first | rfl | (simp; done) | omega | (rw [List.length_set, hrl])) hjj (by omega)) ?_
    refine JM.take 7 (fun _ h => h) rfl (by kernel_rfl) rfl rfl rfl (m' := 243) rfl (Pur.loadA rfl rfl rfl (CellsIn.el rfl hxj)) ?_
    refine JM.setv (u' := rgV (xs.getD (xs.length - 1 - k) default)) 21 rfl rfl ?_
    refine JM.take 8 (fun _ h => h) rfl (by kernel_rfl) rfl rfl rfl (m' := 499) rfl (Pur.move rfl) ?_
    refine JM.take 9 (fun _ h => h) rfl (by kernel_rfl) rfl rfl rfl (m' := 1011) rfl (Pur.move rfl) ?_
    refine JM.take 10 (fun _ h => h) rfl (by kernel_rfl) rfl rfl rfl (m' := 2035) rfl (Pur.idx rfl rfl rfl (by first | rfl | (simp; done) | omega | (rw [List.length_set, hrl])) rfl (by omega)) ?_
    refine JM.take 11 (fun _ h => h) rfl (by kernel_rfl) rfl rfl rfl (m' := 4083) rfl (Pur.loadA rfl rfl rfl (CellsIn.el rfl hxk)) ?_
    refine JM.setv (u' := rgV (xs.getD k default)) 25 rfl rfl ?_
    refine JM.take 12 (fun _ h => h) rfl (by kernel_rfl) rfl rfl rfl (m' := 8179) rfl (Pur.idx rfl rfl rfl (by first | rfl | (simp; done) | omega | (rw [List.length_set, hrl])) rfl (by omega)) ?_
    refine JM.many (rs := [2, 3, 13]) (by kernel_rfl) rfl (fun i hi => ?_)
    simp only [List.mem_cons, List.not_mem_nil, or_false] at hi
    rcases hi with rfl | rfl | rfl
    · skip
      refine JMi.eff rfl rfl rfl rfl (m' := 8183) rfl (Pur.eff (Pur.move rfl)) ?_
      rintro _ _ ⟨rfl, rfl⟩
      refine ⟨.inr (fun _ h => h), ?_⟩
      refine JM.many (rs := [3, 13]) (by kernel_rfl) rfl (fun i hi => ?_)
      simp only [List.mem_cons, List.not_mem_nil, or_false] at hi
      rcases hi with rfl | rfl
      · skip
        refine JMi.eff rfl rfl rfl rfl (m' := 8191) rfl (Pur.eff (Pur.move rfl)) ?_
        rintro _ _ ⟨rfl, rfl⟩
        refine ⟨.inr (fun _ h => h), ?_⟩
        refine JM.one (i := 13) (by kernel_rfl) ?_
        refine JMi.effN rfl rfl rfl (m' := 16383) rfl (Eff.storeSA (z' := (xs.getD (xs.length - 1 - k) default)) rfl rfl rfl rfl (by omega) rfl) ?_
        rintro _ _ ⟨rfl, rfl⟩
        refine ⟨.inl (by simp), ?_⟩
        refine JM.one (i := 14) (by kernel_rfl) ?_
        refine JMi.eff rfl rfl rfl rfl (m' := 32767) rfl (Pur.eff (Pur.idx rfl rfl rfl (by first | rfl | (simp; done) | omega | (rw [List.length_set, hrl])) hjj (by rw [List.length_set]; omega))) ?_
        rintro _ _ ⟨rfl, rfl⟩
        refine ⟨.inl (.inr (by kernel_rfl)), ?_⟩
        refine JM.one (i := 15) (by kernel_rfl) ?_
        refine JMi.effN rfl rfl rfl (m' := 65535) rfl (Eff.storeSA (z' := (xs.getD k default)) rfl rfl rfl rfl (by rw [List.length_set]; omega) rfl) ?_
        rintro _ _ ⟨rfl, rfl⟩
        refine ⟨.inl (by simp), ?_⟩
        refine JM.done rfl ?_
        refine J.inBlock ?_
        refine J.region rfl ?_
        refine JO.pur rfl rfl rfl (Pur.move rfl) ?_
        refine JO.pur rfl rfl rfl (Pur.add rfl rfl (wr64 (by omega))) ?_
        refine JO.pur rfl rfl rfl (Pur.move rfl) ?_
        refine JO.pur rfl rfl rfl (Pur.sub rfl rfl (wr64 (by omega))) ?_
        refine JO.pur rfl rfl rfl (Pur.assign rfl) ?_
        refine JO.pur rfl rfl rfl (Pur.assign rfl) ?_
        refine JO.nil ?_
        exact J.weaken (.cons rfl (congrArg (Value.int .i64) (by first | rfl | (dsimp only; omega))) (.cons rfl (congrArg (Value.int .i64) (by omega)) (.cons rfl rfl .nil))) (fun h s => by rw [hst] at s; exact SubC.out h s) (ih0 (k + 1) (by omega) (by omega))
      · skip
        refine JMi.effN rfl rfl rfl (m' := 16375) rfl (Eff.storeSA (z' := (xs.getD (xs.length - 1 - k) default)) rfl rfl rfl rfl (by omega) rfl) ?_
        rintro _ _ ⟨rfl, rfl⟩
        refine ⟨.inl (by simp), ?_⟩
        refine JM.one (i := 3) (by kernel_rfl) ?_
        refine JMi.eff rfl rfl rfl rfl (m' := 16383) rfl (Pur.eff (Pur.move rfl)) ?_
        rintro _ _ ⟨rfl, rfl⟩
        refine ⟨.inl (.inr (by kernel_rfl)), ?_⟩
        refine JM.one (i := 14) (by kernel_rfl) ?_
        refine JMi.eff rfl rfl rfl rfl (m' := 32767) rfl (Pur.eff (Pur.idx rfl rfl rfl (by first | rfl | (simp; done) | omega | (rw [List.length_set, hrl])) hjj (by rw [List.length_set]; omega))) ?_
        rintro _ _ ⟨rfl, rfl⟩
        refine ⟨.inl (.inr (by kernel_rfl)), ?_⟩
        refine JM.one (i := 15) (by kernel_rfl) ?_
        refine JMi.effN rfl rfl rfl (m' := 65535) rfl (Eff.storeSA (z' := (xs.getD k default)) rfl rfl rfl rfl (by rw [List.length_set]; omega) rfl) ?_
        rintro _ _ ⟨rfl, rfl⟩
        refine ⟨.inl (by simp), ?_⟩
        refine JM.done rfl ?_
        refine J.inBlock ?_
        refine J.region rfl ?_
        refine JO.pur rfl rfl rfl (Pur.move rfl) ?_
        refine JO.pur rfl rfl rfl (Pur.add rfl rfl (wr64 (by omega))) ?_
        refine JO.pur rfl rfl rfl (Pur.move rfl) ?_
        refine JO.pur rfl rfl rfl (Pur.sub rfl rfl (wr64 (by omega))) ?_
        refine JO.pur rfl rfl rfl (Pur.assign rfl) ?_
        refine JO.pur rfl rfl rfl (Pur.assign rfl) ?_
        refine JO.nil ?_
        exact J.weaken (.cons rfl (congrArg (Value.int .i64) (by first | rfl | (dsimp only; omega))) (.cons rfl (congrArg (Value.int .i64) (by omega)) (.cons rfl rfl .nil))) (fun h s => by rw [hst] at s; exact SubC.out h s) (ih0 (k + 1) (by omega) (by omega))
    · skip
      refine JMi.eff rfl rfl rfl rfl (m' := 8187) rfl (Pur.eff (Pur.move rfl)) ?_
      rintro _ _ ⟨rfl, rfl⟩
      refine ⟨.inr (fun _ h => h), ?_⟩
      refine JM.many (rs := [2, 13]) (by kernel_rfl) rfl (fun i hi => ?_)
      simp only [List.mem_cons, List.not_mem_nil, or_false] at hi
      rcases hi with rfl | rfl
      · skip
        refine JMi.eff rfl rfl rfl rfl (m' := 8191) rfl (Pur.eff (Pur.move rfl)) ?_
        rintro _ _ ⟨rfl, rfl⟩
        refine ⟨.inr (fun _ h => h), ?_⟩
        refine JM.one (i := 13) (by kernel_rfl) ?_
        refine JMi.effN rfl rfl rfl (m' := 16383) rfl (Eff.storeSA (z' := (xs.getD (xs.length - 1 - k) default)) rfl rfl rfl rfl (by omega) rfl) ?_
        rintro _ _ ⟨rfl, rfl⟩
        refine ⟨.inl (by simp), ?_⟩
        refine JM.one (i := 14) (by kernel_rfl) ?_
        refine JMi.eff rfl rfl rfl rfl (m' := 32767) rfl (Pur.eff (Pur.idx rfl rfl rfl (by first | rfl | (simp; done) | omega | (rw [List.length_set, hrl])) hjj (by rw [List.length_set]; omega))) ?_
        rintro _ _ ⟨rfl, rfl⟩
        refine ⟨.inl (.inr (by kernel_rfl)), ?_⟩
        refine JM.one (i := 15) (by kernel_rfl) ?_
        refine JMi.effN rfl rfl rfl (m' := 65535) rfl (Eff.storeSA (z' := (xs.getD k default)) rfl rfl rfl rfl (by rw [List.length_set]; omega) rfl) ?_
        rintro _ _ ⟨rfl, rfl⟩
        refine ⟨.inl (by simp), ?_⟩
        refine JM.done rfl ?_
        refine J.inBlock ?_
        refine J.region rfl ?_
        refine JO.pur rfl rfl rfl (Pur.move rfl) ?_
        refine JO.pur rfl rfl rfl (Pur.add rfl rfl (wr64 (by omega))) ?_
        refine JO.pur rfl rfl rfl (Pur.move rfl) ?_
        refine JO.pur rfl rfl rfl (Pur.sub rfl rfl (wr64 (by omega))) ?_
        refine JO.pur rfl rfl rfl (Pur.assign rfl) ?_
        refine JO.pur rfl rfl rfl (Pur.assign rfl) ?_
        refine JO.nil ?_
        exact J.weaken (.cons rfl (congrArg (Value.int .i64) (by first | rfl | (dsimp only; omega))) (.cons rfl (congrArg (Value.int .i64) (by omega)) (.cons rfl rfl .nil))) (fun h s => by rw [hst] at s; exact SubC.out h s) (ih0 (k + 1) (by omega) (by omega))
      · skip
        refine JMi.effN rfl rfl rfl (m' := 16379) rfl (Eff.storeSA (z' := (xs.getD (xs.length - 1 - k) default)) rfl rfl rfl rfl (by omega) rfl) ?_
        rintro _ _ ⟨rfl, rfl⟩
        refine ⟨.inl (by simp), ?_⟩
        refine JM.one (i := 2) (by kernel_rfl) ?_
        refine JMi.eff rfl rfl rfl rfl (m' := 16383) rfl (Pur.eff (Pur.move rfl)) ?_
        rintro _ _ ⟨rfl, rfl⟩
        refine ⟨.inl (.inr (by kernel_rfl)), ?_⟩
        refine JM.one (i := 14) (by kernel_rfl) ?_
        refine JMi.eff rfl rfl rfl rfl (m' := 32767) rfl (Pur.eff (Pur.idx rfl rfl rfl (by first | rfl | (simp; done) | omega | (rw [List.length_set, hrl])) hjj (by rw [List.length_set]; omega))) ?_
        rintro _ _ ⟨rfl, rfl⟩
        refine ⟨.inl (.inr (by kernel_rfl)), ?_⟩
        refine JM.one (i := 15) (by kernel_rfl) ?_
        refine JMi.effN rfl rfl rfl (m' := 65535) rfl (Eff.storeSA (z' := (xs.getD k default)) rfl rfl rfl rfl (by rw [List.length_set]; omega) rfl) ?_
        rintro _ _ ⟨rfl, rfl⟩
        refine ⟨.inl (by simp), ?_⟩
        refine JM.done rfl ?_
        refine J.inBlock ?_
        refine J.region rfl ?_
        refine JO.pur rfl rfl rfl (Pur.move rfl) ?_
        refine JO.pur rfl rfl rfl (Pur.add rfl rfl (wr64 (by omega))) ?_
        refine JO.pur rfl rfl rfl (Pur.move rfl) ?_
        refine JO.pur rfl rfl rfl (Pur.sub rfl rfl (wr64 (by omega))) ?_
        refine JO.pur rfl rfl rfl (Pur.assign rfl) ?_
        refine JO.pur rfl rfl rfl (Pur.assign rfl) ?_
        refine JO.nil ?_
        exact J.weaken (.cons rfl (congrArg (Value.int .i64) (by first | rfl | (dsimp only; omega))) (.cons rfl (congrArg (Value.int .i64) (by omega)) (.cons rfl rfl .nil))) (fun h s => by rw [hst] at s; exact SubC.out h s) (ih0 (k + 1) (by omega) (by omega))
    · skip
      refine JMi.effN rfl rfl rfl (m' := 16371) rfl (Eff.storeSA (z' := (xs.getD (xs.length - 1 - k) default)) rfl rfl rfl rfl (by omega) rfl) ?_
      rintro _ _ ⟨rfl, rfl⟩
      refine ⟨.inl (by simp), ?_⟩
      refine JM.many (rs := [2, 3]) (by kernel_rfl) rfl (fun i hi => ?_)
      simp only [List.mem_cons, List.not_mem_nil, or_false] at hi
      rcases hi with rfl | rfl
      · skip
        refine JMi.eff rfl rfl rfl rfl (m' := 16375) rfl (Pur.eff (Pur.move rfl)) ?_
        rintro _ _ ⟨rfl, rfl⟩
        refine ⟨.inl (.inr (by kernel_rfl)), ?_⟩
        refine JM.one (i := 3) (by kernel_rfl) ?_
        refine JMi.eff rfl rfl rfl rfl (m' := 16383) rfl (Pur.eff (Pur.move rfl)) ?_
        rintro _ _ ⟨rfl, rfl⟩
        refine ⟨.inl (.inr (by kernel_rfl)), ?_⟩
        refine JM.one (i := 14) (by kernel_rfl) ?_
        refine JMi.eff rfl rfl rfl rfl (m' := 32767) rfl (Pur.eff (Pur.idx rfl rfl rfl (by first | rfl | (simp; done) | omega | (rw [List.length_set, hrl])) hjj (by rw [List.length_set]; omega))) ?_
        rintro _ _ ⟨rfl, rfl⟩
        refine ⟨.inl (.inr (by kernel_rfl)), ?_⟩
        refine JM.one (i := 15) (by kernel_rfl) ?_
        refine JMi.effN rfl rfl rfl (m' := 65535) rfl (Eff.storeSA (z' := (xs.getD k default)) rfl rfl rfl rfl (by rw [List.length_set]; omega) rfl) ?_
        rintro _ _ ⟨rfl, rfl⟩
        refine ⟨.inl (by simp), ?_⟩
        refine JM.done rfl ?_
        refine J.inBlock ?_
        refine J.region rfl ?_
        refine JO.pur rfl rfl rfl (Pur.move rfl) ?_
        refine JO.pur rfl rfl rfl (Pur.add rfl rfl (wr64 (by omega))) ?_
        refine JO.pur rfl rfl rfl (Pur.move rfl) ?_
        refine JO.pur rfl rfl rfl (Pur.sub rfl rfl (wr64 (by omega))) ?_
        refine JO.pur rfl rfl rfl (Pur.assign rfl) ?_
        refine JO.pur rfl rfl rfl (Pur.assign rfl) ?_
        refine JO.nil ?_
        exact J.weaken (.cons rfl (congrArg (Value.int .i64) (by first | rfl | (dsimp only; omega))) (.cons rfl (congrArg (Value.int .i64) (by omega)) (.cons rfl rfl .nil))) (fun h s => by rw [hst] at s; exact SubC.out h s) (ih0 (k + 1) (by omega) (by omega))
      · skip
        refine JMi.eff rfl rfl rfl rfl (m' := 16379) rfl (Pur.eff (Pur.move rfl)) ?_
        rintro _ _ ⟨rfl, rfl⟩
        refine ⟨.inl (.inr (by kernel_rfl)), ?_⟩
        refine JM.one (i := 2) (by kernel_rfl) ?_
        refine JMi.eff rfl rfl rfl rfl (m' := 16383) rfl (Pur.eff (Pur.move rfl)) ?_
        rintro _ _ ⟨rfl, rfl⟩
        refine ⟨.inl (.inr (by kernel_rfl)), ?_⟩
        refine JM.one (i := 14) (by kernel_rfl) ?_
        refine JMi.eff rfl rfl rfl rfl (m' := 32767) rfl (Pur.eff (Pur.idx rfl rfl rfl (by first | rfl | (simp; done) | omega | (rw [List.length_set, hrl])) hjj (by rw [List.length_set]; omega))) ?_
        rintro _ _ ⟨rfl, rfl⟩
        refine ⟨.inl (.inr (by kernel_rfl)), ?_⟩
        refine JM.one (i := 15) (by kernel_rfl) ?_
        refine JMi.effN rfl rfl rfl (m' := 65535) rfl (Eff.storeSA (z' := (xs.getD k default)) rfl rfl rfl rfl (by rw [List.length_set]; omega) rfl) ?_
        rintro _ _ ⟨rfl, rfl⟩
        refine ⟨.inl (by simp), ?_⟩
        refine JM.done rfl ?_
        refine J.inBlock ?_
        refine J.region rfl ?_
        refine JO.pur rfl rfl rfl (Pur.move rfl) ?_
        refine JO.pur rfl rfl rfl (Pur.add rfl rfl (wr64 (by omega))) ?_
        refine JO.pur rfl rfl rfl (Pur.move rfl) ?_
        refine JO.pur rfl rfl rfl (Pur.sub rfl rfl (wr64 (by omega))) ?_
        refine JO.pur rfl rfl rfl (Pur.assign rfl) ?_
        refine JO.pur rfl rfl rfl (Pur.assign rfl) ?_
        refine JO.nil ?_
        exact J.weaken (.cons rfl (congrArg (Value.int .i64) (by first | rfl | (dsimp only; omega))) (.cons rfl (congrArg (Value.int .i64) (by omega)) (.cons rfl rfl .nil))) (fun h s => by rw [hst] at s; exact SubC.out h s) (ih0 (k + 1) (by omega) (by omega))
  · try simp only [decide_eq_true_eq, decide_eq_false_iff_not, Bool.not_eq_true', Bool.not_eq_false', Bool.and_eq_true, Bool.or_eq_true, Bool.and_eq_false_iff, Bool.or_eq_false_iff, Option.isNone_some, Option.isSome_some, Option.isNone_none, Option.isSome_none, Int.not_lt, Int.not_le, beq_iff_eq, beq_eq_false_iff_ne, bne_iff_ne, ne_eq, Bool.not_not, Decidable.not_not] at h9
    refine J.condF rfl rfl ?_
    refine J.exit rfl rfl ?_
    refine J.fin rfl ?_
    obtain hke : xs.length - 1 - k ≤ k := by omega
    refine ⟨_, _, ⟨rfl, rfl⟩, rfl, fun h s => ?_⟩
    rw [rvL_all hke] at s
    exact SubC.out h s

end Go.Proofs.Ytnhippfllgnngaa
