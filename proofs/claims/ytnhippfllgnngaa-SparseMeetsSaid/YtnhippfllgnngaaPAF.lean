/-
  A part of the proof of the claim that this folder bears.
-/
import Derived.Test.YtnhippfllgnngaaPAE
import Derived.Test.YtnhippfllgnngaaPAA
/- The text SC2. -/
set_option linter.unusedVariables false
set_option linter.unusedSimpArgs false
set_option maxRecDepth 10000
namespace Go.Proofs.Ytnhippfllgnngaa
open Go Go.KK Dm

theorem can_take_le {rs : List Rg} (h : okD rs) {k : Nat} (hk : k ≤ rs.length) : cntD ((canD rs).take k) ≤ 4096 := by
  have hne : rs ≠ [] := fun e => by have := h.1; rw [e] at this; simp at this
  have hcc := canD_cnt h.2.2.1 hne
  by_cases h0 : cntD rs = 0
  · cases k with
    | zero => rw [List.take_zero]; decide
    | succ k =>
      have hl : k < (canD rs).length := by rw [canD_len]; omega
      rw [cntD_take hl]
      have : cnt ((canD rs).getD k default) = 0 := by
        have hg := canD_get (rs := rs) (k := k) (by omega)
        rw [if_pos h0] at hg
        rw [List.getD_eq_getElem?_getD, hg]; rfl
      rw [this, Nat.mul_zero]; omega
  · have := cntD_take_le2 (rs := canD rs) (by rw [hcc]; exact h0) (k := k) (by rw [canD_len]; exact hk)
    rw [hcc] at this
    exact Nat.le_trans this h.2.2.2
theorem can_cnt_le {rs : List Rg} (h : okD rs) {r : Rg} (hr : r ∈ canD rs) : cnt r ≤ 4096 := by
  have hne : rs ≠ [] := fun e => by have := h.1; rw [e] at this; simp at this
  have hcc := canD_cnt h.2.2.1 hne
  by_cases h0 : cntD rs = 0
  · unfold canD at hr
    rw [if_pos h0] at hr
    obtain ⟨_, _, rfl⟩ := List.mem_map.1 hr
    rw [none3_cnt]; omega
  · have := cnt_dvd hr
    have := Nat.le_of_dvd (by omega) this
    have := h.2.2.2
    omega
theorem row_at {out : List (List Int)} {r : Rg} {j i : Nat} {o : List Int} (ho : out[j]? = some o) (hi : i < cnt r) : (addD out r)[j * cnt r + i]? = some (o ++ [atR r (i : Int)]) := by
  have hc : 0 < cnt r := by omega
  rw [addD_get hc]
  have e1 : (j * cnt r + i) / cnt r = j := by rw [Nat.mul_comm, Nat.mul_add_div hc, Nat.div_eq_of_lt hi]; rfl
  have e2 : (j * cnt r + i) % cnt r = i := by rw [Nat.mul_comm, Nat.mul_add_mod, Nat.mod_eq_of_lt hi]
  rw [e1, e2, ho]; rfl
theorem r_Indexes {L : List Asn} {a : Option Addr} {n cap : Nat} {rs : List Rg} [SlIn rgE L a rs] (hn : n = rs.length) :
    CallS Try.prog 129 [.agg #[.slice a n cap]].toArray L (fun v M => ∃ a' c' hs, v = .tuple #[.slice a' (ixsV rs).length c', .int .i64 (erD rs)] ∧ M = sl hE a' c' hs :: rows intE hs (ixsV rs) :: L) := by
  subst hn
  refine CallS.ent ?_
  refine CallS.enter Try.func129 rfl rfl rfl rfl rfl ?_
  refine J.seq rfl ?_
  refine J.region rfl ?_
  refine JO.eff rfl rfl rfl (Eff.box (cs := [_]) rfl rfl) ?_
  rintro _ _ ⟨b1, rfl, rfl⟩
  refine JO.pur rfl rfl rfl (Pur.assign rfl) ?_
  refine JO.pur rfl rfl rfl (Pur.assign rfl) ?_
  refine JO.nil ?_
  refine J.seq rfl ?_
  refine J.seq rfl ?_
  refine J.region rfl ?_
  refine JO.pur rfl rfl rfl (Pur.loadA rfl rfl rfl CellsIn.blk) ?_
  refine JO.effR rfl rfl rfl (Eff.call rfl (r_Valid (rs := rs) rfl)) ?_
  refine JO.pur rfl rfl rfl (Pur.not rfl) ?_
  refine JO.nil ?_
  refine J.splitB 15 rfl (fun h15 => ?_) (fun h15 => ?_)
  · try simp only [decide_eq_true_eq, decide_eq_false_iff_not, Bool.not_eq_true', Bool.not_eq_false', Bool.and_eq_true, Bool.or_eq_true, Bool.and_eq_false_iff, Bool.or_eq_false_iff, Option.isNone_some, Option.isSome_some, Option.isNone_none, Option.isSome_none, Int.not_lt, Int.not_le, beq_iff_eq, beq_eq_false_iff_ne, bne_iff_ne, ne_eq, Bool.not_not, Decidable.not_not] at h15
    have hbad : ¬ okD rs := by simpa using h15
    refine J.condT rfl rfl ?_
    refine J.seq rfl ?_
    refine J.region rfl ?_
    refine JO.pur rfl rfl rfl (Pur.assign rfl) ?_
    refine JO.pur rfl rfl rfl (Pur.assign rfl) ?_
    refine JO.nil ?_
    refine J.ret rfl rfl ?_
    refine ⟨_, _, ⟨none, 0, [], rfl, rfl⟩, ?_, fun h s => ?_⟩
    · unfold ixsV erD; rw [if_neg hbad, if_neg hbad]; rfl
    · unfold ixsV; rw [if_neg hbad]; exact sl_nil_new (rows_nil (SubC.out h s))
  · try simp only [decide_eq_true_eq, decide_eq_false_iff_not, Bool.not_eq_true', Bool.not_eq_false', Bool.and_eq_true, Bool.or_eq_true, Bool.and_eq_false_iff, Bool.or_eq_false_iff, Option.isNone_some, Option.isSome_some, Option.isNone_none, Option.isSome_none, Int.not_lt, Int.not_le, beq_iff_eq, beq_eq_false_iff_ne, bne_iff_ne, ne_eq, Bool.not_not, Decidable.not_not] at h15
    have hgood : okD rs := by simpa using h15
    have hl3 := hgood.2.1
    have hne : rs ≠ [] := fun e => by have := hgood.1; rw [e] at this; simp at this
    have hcv : cdV rs = canD rs := by unfold cdV; rw [if_pos hgood]
    have hcl : (canD rs).length = rs.length := canD_len rs
    refine J.condF rfl rfl ?_
    refine J.skip rfl ?_
    refine J.seq rfl ?_
    refine J.region rfl ?_
    refine JO.pur rfl rfl rfl (Pur.loadA rfl rfl rfl CellsIn.blk) ?_
    refine JO.eff rfl rfl rfl (Eff.call rfl (r_Canon (rs := rs) rfl)) ?_
    rintro _ _ ⟨a18, c18, rfl, rfl⟩
    rw [hcv, hcl]
    refine JO.pur rfl rfl rfl (Pur.move rfl) ?_
    refine JO.pur rfl rfl rfl (Pur.extract rfl rfl) ?_
    refine JO.pur rfl rfl rfl (Pur.extract rfl rfl) ?_
    refine JO.eff rfl rfl rfl (Eff.alloc (cs := [_]) rfl) ?_
    rintro _ _ ⟨b4, rfl, rfl⟩
    refine JO.effN rfl rfl (Eff.storeBA (cs' := [_]) rfl rfl (by rfl) (by rfl) (by rfl)) ?_
    rintro _ _ ⟨rfl, rfl⟩
    refine JO.pur rfl rfl rfl (Pur.assign rfl) ?_
    refine JO.nil ?_
    refine J.seq rfl ?_
    refine J.region rfl ?_
    refine JO.eff rfl rfl rfl (Eff.buildSlice hE [⟨none, 0, 0⟩] rfl rfl rfl rfl rfl rfl rfl) ?_
    rintro _ _ ⟨b21, rfl, -, rfl⟩
    refine JO.pur rfl rfl rfl (Pur.assign rfl) ?_
    refine JO.nil ?_
    refine J.seq rfl ?_
    refine J.seq rfl ?_
    refine J.region rfl ?_
    refine JO.pur rfl rfl rfl (Pur.assign rfl) ?_
    refine JO.nil ?_
    refine J.block rfl ?_
    refine J.loopF (ι := Nat × Option Addr × Nat × List Hdr) (fun q => q.1 ≤ rs.length ∧ q.2.2.2.length = cntD ((canD rs).take q.1)) (fun q => [(6, .slice q.2.1 (cntD ((canD rs).take q.1)) q.2.2.1), (7, .int .i64 (q.1 : Int))]) [(4, _)] (fun q => sl hE q.2.1 q.2.2.1 q.2.2.2 :: rows intE q.2.2.2 (idx ((canD rs).take q.1)) :: blk b4 (.cells #[.slice a18 rs.length c18] 24) :: sl rgE a18 c18 (canD rs) :: L) (fun q => rs.length - q.1) (0, some ⟨b21, 0, none⟩, 1, [⟨none, 0, 0⟩]) rfl (.cons rfl rfl .nil) (.cons rfl (by dsimp only; rw [List.take_zero]; rfl) (.cons rfl rfl .nil)) (fun h s => by have s2 := snoc_row (E := intE) (a := none) (n := 0) (cap := 0) (xs := []) (hs := []) (xss := []) rfl (sl_nil_new (E := intE) (rows_nil (E := intE) s)); dsimp only; rw [List.take_zero]; exact SubC.out (L := rows intE [⟨none, 0, 0⟩] (idx []) :: _) h s2) ⟨Nat.zero_le _, by dsimp only; rw [List.take_zero]; rfl⟩ ?_
    rintro ⟨k, a6, c6, hs6⟩ ⟨hk, hh6⟩ ih0
    try dsimp only
    dsimp only at hk hh6
    have hkb := can_take_le hgood hk
    refine J.seq rfl ?_
    refine J.seq rfl ?_
    refine J.region rfl ?_
    refine JO.pur rfl rfl rfl (Pur.move rfl) ?_
    refine JO.pur rfl rfl rfl (Pur.fieldAddr rfl) ?_
    refine JO.pur rfl rfl rfl (Pur.load rfl (CellIn.blk rfl)) ?_
    refine JO.pur rfl rfl rfl (Pur.len rfl) ?_
    refine JO.pur rfl rfl rfl (Pur.lss rfl rfl) ?_
    refine JO.nil ?_
    refine J.splitB 26 rfl (fun h26 => ?_) (fun h26 => ?_)
    · try simp only [decide_eq_true_eq, decide_eq_false_iff_not, Bool.not_eq_true', Bool.not_eq_false', Bool.and_eq_true, Bool.or_eq_true, Bool.and_eq_false_iff, Bool.or_eq_false_iff, Option.isNone_some, Option.isSome_some, Option.isNone_none, Option.isSome_none, Int.not_lt, Int.not_le, beq_iff_eq, beq_eq_false_iff_ne, bne_iff_ne, ne_eq, Bool.not_not, Decidable.not_not] at h26
      have hkl : k < rs.length := by omega
      have hkl2 : k < (canD rs).length := by omega
      have hxk : (canD rs)[k]? = some ((canD rs).getD k default) := by rw [List.getD_eq_getElem?_getD, List.getElem?_eq_getElem hkl2]; rfl
      have hct := cntD_take hkl2
      have hix := idx_take hkl2
      have hmem := getD_mem (d := canD rs) (k := k) hkl2
      have hol := idx_len_take (canD rs) k (by omega)
      have hkb2 := can_take_le hgood (k := k + 1) (by omega)
      generalize hrr : (canD rs).getD k default = r at *
      have hor := canD_ok hgood.2.2.1 r hmem
      have hce := cnt_eq hor
      have hcl4 := can_cnt_le hgood hmem
      have hal := addD_len (idx ((canD rs).take k)) r
      rw [hol] at hal
      rw [hct] at hkb2
      refine J.condT rfl rfl ?_
      refine J.skip rfl ?_
      refine J.seq rfl ?_
      refine J.block rfl ?_
      refine J.seq rfl ?_
      refine J.region rfl ?_
      refine JO.pur rfl rfl rfl (Pur.fieldAddr rfl) ?_
      refine JO.pur rfl rfl rfl (Pur.load rfl (CellIn.blk rfl)) ?_
      refine JO.pur rfl rfl rfl (Pur.move rfl) ?_
      refine JO.pur rfl rfl rfl (Pur.idx rfl rfl rfl (by first | rfl | (simp; done) | omega) rfl (by omega)) ?_
      refine JO.pur rfl rfl rfl (Pur.loadA rfl rfl rfl (CellsIn.el rfl hxk)) ?_
      refine JO.setv (u' := rgV r) 34 rfl rfl ?_
      refine JO.eff rfl rfl rfl (Eff.call rfl (r3_Members hor (by omega))) ?_
      rintro _ _ ⟨a35, c35, rfl, rfl⟩
      refine JO.pur rfl rfl rfl (Pur.move rfl) ?_
      refine JO.pur rfl rfl rfl (Pur.extract rfl rfl) ?_
      refine JO.setv (u' := .slice a35 (cnt r) c35) 36 rfl (congrArg (fun z => Value.slice a35 z c35) (memR_len r)) ?_
      refine JO.pur rfl rfl rfl (Pur.extract rfl rfl) ?_
      refine JO.pur rfl rfl rfl (Pur.assign rfl) ?_
      refine JO.pur rfl rfl rfl (Pur.assign rfl) ?_
      refine JO.nil ?_
      refine J.seq rfl ?_
      refine J.region rfl ?_
      refine JO.pur rfl rfl rfl (Pur.assign rfl) ?_
      refine JO.nil ?_
      refine J.seq rfl ?_
      refine J.seq rfl ?_
      refine J.region rfl ?_
      refine JO.pur rfl rfl rfl (Pur.assign rfl) ?_
      refine JO.nil ?_
      refine J.block rfl ?_
      refine J.loopF (ι := Nat × Option Addr × Nat × List Hdr) (fun q => q.1 ≤ cntD ((canD rs).take k) ∧ q.2.2.2.length = q.1 * cnt r) (fun q => [(10, .slice q.2.1 (q.1 * cnt r) q.2.2.1), (11, .int .i64 (q.1 : Int))]) [(4, _), (6, _), (7, _), (8, _)] (fun q => sl hE q.2.1 q.2.2.1 q.2.2.2 :: rows intE q.2.2.2 ((addD (idx ((canD rs).take k)) r).take (q.1 * cnt r)) :: sl hE a6 c6 hs6 :: rows intE hs6 (idx ((canD rs).take k)) :: sl intE a35 c35 (memR r) :: blk b4 (.cells #[.slice a18 rs.length c18] 24) :: sl rgE a18 c18 (canD rs) :: L) (fun q => cntD ((canD rs).take k) - q.1) (0, none, 0, []) rfl (.cons rfl rfl (.cons rfl rfl (.cons rfl rfl (.cons rfl rfl .nil)))) (.cons rfl (by dsimp only; rw [Nat.zero_mul]) (.cons rfl rfl .nil)) (fun h s => by have s2 := sl_nil_new (E := hE) (rows_nil (E := intE) s); dsimp only; rw [Nat.zero_mul, List.take_zero]; exact SubC.out (L := sl hE none 0 [] :: rows intE [] [] :: _) h s2) ⟨Nat.zero_le _, by simp⟩ ?_
      rintro ⟨j, a10, c10, hs10⟩ ⟨hj, hh10⟩ ihj
      try dsimp only
      dsimp only at hj hh10
      refine J.seq rfl ?_
      refine J.seq rfl ?_
      refine J.region rfl ?_
      refine JO.pur rfl rfl rfl (Pur.move rfl) ?_
      refine JO.pur rfl rfl rfl (Pur.move rfl) ?_
      refine JO.pur rfl rfl rfl (Pur.len rfl) ?_
      refine JO.pur rfl rfl rfl (Pur.lss rfl rfl) ?_
      refine JO.nil ?_
      refine J.splitB 41 rfl (fun h41 => ?_) (fun h41 => ?_)
      · try simp only [decide_eq_true_eq, decide_eq_false_iff_not, Bool.not_eq_true', Bool.not_eq_false', Bool.and_eq_true, Bool.or_eq_true, Bool.and_eq_false_iff, Bool.or_eq_false_iff, Option.isNone_some, Option.isSome_some, Option.isNone_none, Option.isSome_none, Int.not_lt, Int.not_le, beq_iff_eq, beq_eq_false_iff_ne, bne_iff_ne, ne_eq, Bool.not_not, Decidable.not_not] at h41
        have hjl : j < cntD ((canD rs).take k) := by omega
        have hsm : (j + 1) * cnt r = j * cnt r + cnt r := Nat.succ_mul _ _
        have hjm : (j + 1) * cnt r ≤ cntD ((canD rs).take k) * cnt r := Nat.mul_le_mul_right _ hjl
        obtain ⟨o1, ho1⟩ : ∃ o1, (idx ((canD rs).take k))[j]? = some o1 := ⟨_, List.getElem?_eq_getElem (by omega)⟩
        obtain ⟨hd, hH⟩ : ∃ hd, hs6[j]? = some hd := ⟨_, List.getElem?_eq_getElem (by omega)⟩
        have hol1 : o1.length = k := idx_row_len (d := canD rs) (n := j) (by omega) ho1
        refine J.condT rfl rfl ?_
        refine J.skip rfl ?_
        refine J.seq rfl ?_
        refine J.block rfl ?_
        refine J.seq rfl ?_
        refine J.region rfl ?_
        refine JO.pur rfl rfl rfl (Pur.assign rfl) ?_
        refine JO.nil ?_
        refine J.block rfl ?_
        refine J.loopF (ι := Nat × Option Addr × Nat × List Hdr) (fun q => q.1 ≤ cnt r ∧ q.2.2.2.length = j * cnt r + q.1) (fun q => [(10, .slice q.2.1 (j * cnt r + q.1) q.2.2.1), (12, .int .i64 (q.1 : Int))]) [(4, _), (6, _), (7, _), (8, _), (11, _)] (fun q => sl hE q.2.1 q.2.2.1 q.2.2.2 :: rows intE q.2.2.2 ((addD (idx ((canD rs).take k)) r).take (j * cnt r + q.1)) :: sl hE a6 c6 hs6 :: rows intE hs6 (idx ((canD rs).take k)) :: sl intE a35 c35 (memR r) :: blk b4 (.cells #[.slice a18 rs.length c18] 24) :: sl rgE a18 c18 (canD rs) :: L) (fun q => cnt r - q.1) (0, a10, c10, hs10) rfl (.cons rfl rfl (.cons rfl rfl (.cons rfl rfl (.cons rfl rfl (.cons rfl rfl .nil))))) (.cons rfl rfl (.cons rfl rfl .nil)) (by first | exact fun _ h => h | exact SubC.out | (dsimp only; exact SubC.out)) ⟨Nat.zero_le _, by dsimp only; omega⟩ ?_
        rintro ⟨i, a11, c11, hs11⟩ ⟨hi, hh11⟩ ihi
        try dsimp only
        dsimp only at hi hh11
        refine J.seq rfl ?_
        refine J.seq rfl ?_
        refine J.region rfl ?_
        refine JO.pur rfl rfl rfl (Pur.move rfl) ?_
        refine JO.pur rfl rfl rfl (Pur.move rfl) ?_
        refine JO.pur rfl rfl rfl (Pur.len rfl) ?_
        refine JO.pur rfl rfl rfl (Pur.lss rfl rfl) ?_
        refine JO.nil ?_
        refine J.splitB 47 rfl (fun h47 => ?_) (fun h47 => ?_)
        · try simp only [decide_eq_true_eq, decide_eq_false_iff_not, Bool.not_eq_true', Bool.not_eq_false', Bool.and_eq_true, Bool.or_eq_true, Bool.and_eq_false_iff, Bool.or_eq_false_iff, Option.isNone_some, Option.isSome_some, Option.isNone_none, Option.isSome_none, Int.not_lt, Int.not_le, beq_iff_eq, beq_eq_false_iff_ne, bne_iff_ne, ne_eq, Bool.not_not, Decidable.not_not] at h47
          have hil : i < cnt r := by omega
          have hap2 : (addD (idx ((canD rs).take k)) r).take (j * cnt r + (i + 1)) = (addD (idx ((canD rs).take k)) r).take (j * cnt r + i) ++ [[] ++ o1 ++ [atR r (i : Int)]] := take_get (row_at ho1 hil)
          have hmg := memR_get hil
          have hmL := memR_len r
          refine J.condT rfl rfl ?_
          refine J.skip rfl ?_
          refine J.seq rfl ?_
          refine J.block rfl ?_
          refine J.fact (fun h s => RowsR.len (E := intE) (hs := hs6) (xss := idx ((canD rs).take k)) s) fun hnn => ?_
          have hdn := hdr_n hnn hH ho1
          refine J.fact (fun h s => RowsR.fit (E := intE) (hs := hs6) (xss := idx ((canD rs).take k)) s hH ho1) fun hfit => ?_
          refine J.mask1 (n := 16) [] rfl Try.mixed rfl (by kernel_rfl) ?_
          refine JM.take 0 (fun _ h => h.tail) rfl (by kernel_rfl) rfl rfl rfl (m' := 1) rfl (Pur.move rfl) ?_
          refine JM.take 2 (fun _ h => h.tail) rfl (by kernel_rfl) rfl rfl rfl (m' := 5) rfl (Pur.move rfl) ?_
          refine JM.take 3 (fun _ h => h.tail) rfl (by kernel_rfl) rfl rfl rfl (m' := 13) rfl (Pur.move rfl) ?_
          refine JM.take 4 (fun _ h => h.tail) rfl (by kernel_rfl) rfl rfl rfl (m' := 29) rfl (Pur.idx rfl rfl rfl (by first | rfl | (simp; done) | omega) rfl (by omega)) ?_
          refine JM.take 5 (fun _ h => h.tail) rfl (by kernel_rfl) rfl rfl rfl (m' := 61) rfl (Pur.load rfl (CellIn.el0 rfl hH rfl)) ?_
          refine JM.take 7 (fun _ h => h.tail) rfl (by kernel_rfl) rfl rfl rfl (m' := 189) rfl (Pur.move rfl) ?_
          refine JM.take 8 (fun _ h => h.tail) rfl (by kernel_rfl) rfl rfl rfl (m' := 445) rfl (Pur.move rfl) ?_
          refine JM.take 9 (fun _ h => h.tail) rfl (by kernel_rfl) rfl rfl rfl (m' := 957) rfl (Pur.idx rfl rfl rfl (by first | rfl | (simp; done) | omega) rfl (by omega)) ?_
          refine JM.take 10 (fun _ h => h.tail) rfl (by kernel_rfl) rfl rfl rfl (m' := 1981) rfl (Pur.load rfl (CellIn.el0 rfl hmg rfl)) ?_
          refine JM.setv (u' := .int .i64 (atR r (i : Int))) 60 rfl rfl ?_
          refine JM.many (rs := [1, 11]) (by kernel_rfl) rfl (fun i hi => ?_)
          simp only [List.mem_cons, List.not_mem_nil, or_false] at hi
          rcases hi with rfl | rfl
          · skip
            refine JMi.eff rfl rfl rfl rfl (m' := 1983) rfl (Eff.buildSlice intE ([] : List Int) rfl rfl rfl rfl rfl rfl rfl) ?_
            rintro _ _ ⟨b51, rfl, -, rfl⟩
            refine ⟨.inr (fun _ h => h.tail.tail), ?_⟩
            refine JM.many (rs := [6, 11]) (by kernel_rfl) rfl (fun i hi => ?_)
            simp only [List.mem_cons, List.not_mem_nil, or_false] at hi
            rcases hi with rfl | rfl
            · skip
              refine JMi.eff rfl rfl rfl rfl (m' := 2047) rfl (Eff.append (hi := RowsR.row (E := intE) inferInstance hH ho1) rfl rfl rfl rfl rfl hdn (by decide) (by simp; omega) (by simp; omega) hfit.1) ?_
              rintro _ _ ⟨a56, c56, rfl, rfl⟩
              refine ⟨.inr (fun _ h => h.tail.tail), ?_⟩
              refine JM.one (i := 11) (by kernel_rfl) ?_
              refine JMi.eff rfl rfl rfl rfl (m' := 4095) rfl (Eff.buildSlice intE [atR r (i : Int)] rfl rfl rfl rfl rfl rfl rfl) ?_
              rintro _ _ ⟨b61, rfl, -, rfl⟩
              refine ⟨.inr (fun _ h => h.tail.tail.tail), ?_⟩
              refine JM.one (i := 12) (by kernel_rfl) ?_
              refine JMi.eff rfl rfl rfl rfl (m' := 8191) rfl (Eff.append rfl rfl rfl rfl (by first | rfl | omega | (simp; done) | (simp; omega)) (by first | rfl | omega | (simp; done) | (simp; omega)) (by decide) (by simp; omega) (by simp; omega) (fun h => by cases h)) ?_
              rintro _ _ ⟨a62, c62, rfl, rfl⟩
              refine ⟨.inr (fun _ h => h.tail.tail.tail), ?_⟩
              refine JM.one (i := 13) (by kernel_rfl) ?_
              refine JMi.eff rfl rfl rfl rfl (m' := 16383) rfl (Eff.buildSlice hE [⟨a62, (([] ++ o1).length + [atR r (i : Int)].length), c62⟩] rfl rfl rfl rfl rfl rfl rfl) ?_
              rintro _ _ ⟨b63, rfl, -, rfl⟩
              refine ⟨.inr (fun _ h => h.tail.tail.tail.tail), ?_⟩
              refine JM.one (i := 14) (by kernel_rfl) ?_
              refine JMi.eff rfl rfl rfl rfl (m' := 32767) rfl (Eff.append rfl rfl rfl rfl (by first | rfl | omega | (simp; done) | (simp; omega)) (by first | rfl | omega | (simp; done) | (simp; omega)) (by decide) (by simp; omega) (by simp; omega) (fun h => by cases h)) ?_
              rintro _ _ ⟨a64, c64, rfl, rfl⟩
              refine ⟨.inr (fun _ h => h.tail.tail.tail.tail), ?_⟩
              refine JM.take 15 (fun _ h => h.tail.tail.tail.tail) rfl (by kernel_rfl) rfl rfl rfl (m' := 65535) rfl (Pur.assign rfl) ?_
              refine JM.done rfl ?_
              refine J.inBlock ?_
              refine J.region rfl ?_
              refine JO.pur rfl rfl rfl (Pur.move rfl) ?_
              refine JO.pur rfl rfl rfl (Pur.add rfl rfl (wr64 (by omega))) ?_
              refine JO.pur rfl rfl rfl (Pur.assign rfl) ?_
              refine JO.nil ?_
              exact J.weaken (.cons rfl (by show Value.slice a64 _ c64 = Value.slice a64 (j * cnt r + (i + 1)) c64; rw [hh11]; rfl) (.cons rfl (congrArg (Value.int .i64) (by first | rfl | (dsimp only; omega))) (.cons rfl rfl (.cons rfl rfl (.cons rfl rfl (.cons rfl rfl (.cons rfl rfl .nil))))))) (fun h s => by have s2 := snoc_row (E := intE) (a := a62) (n := (([] ++ o1).length + [atR r (i : Int)].length)) (cap := c62) (xs := [] ++ o1 ++ [atR r (i : Int)]) (hs := hs11) (xss := (addD (idx ((canD rs).take k)) r).take (j * cnt r + i)) (by simp) s; rw [← hap2] at s2; dsimp only; exact SubC.out h s2) (ihi (i + 1, a64, c64, hs11 ++ [⟨a62, (([] ++ o1).length + [atR r (i : Int)].length), c62⟩]) ⟨by dsimp only; omega, by simp [hh11]; omega⟩ (by dsimp only; omega))
            · skip
              refine JMi.eff rfl rfl rfl rfl (m' := 4031) rfl (Eff.buildSlice intE [atR r (i : Int)] rfl rfl rfl rfl rfl rfl rfl) ?_
              rintro _ _ ⟨b61, rfl, -, rfl⟩
              refine ⟨.inr (fun _ h => h.tail.tail.tail), ?_⟩
              refine JM.one (i := 6) (by kernel_rfl) ?_
              refine JMi.eff rfl rfl rfl rfl (m' := 4095) rfl (Eff.append (hi := RowsR.row (E := intE) inferInstance hH ho1) rfl rfl rfl rfl rfl hdn (by decide) (by simp; omega) (by simp; omega) hfit.1) ?_
              rintro _ _ ⟨a56, c56, rfl, rfl⟩
              refine ⟨.inr (fun _ h => h.tail.tail.tail), ?_⟩
              refine JM.one (i := 12) (by kernel_rfl) ?_
              refine JMi.eff rfl rfl rfl rfl (m' := 8191) rfl (Eff.append rfl rfl rfl rfl (by first | rfl | omega | (simp; done) | (simp; omega)) (by first | rfl | omega | (simp; done) | (simp; omega)) (by decide) (by simp; omega) (by simp; omega) (fun h => by cases h)) ?_
              rintro _ _ ⟨a62, c62, rfl, rfl⟩
              refine ⟨.inr (fun _ h => h.tail.tail.tail), ?_⟩
              refine JM.one (i := 13) (by kernel_rfl) ?_
              refine JMi.eff rfl rfl rfl rfl (m' := 16383) rfl (Eff.buildSlice hE [⟨a62, (([] ++ o1).length + [atR r (i : Int)].length), c62⟩] rfl rfl rfl rfl rfl rfl rfl) ?_
              rintro _ _ ⟨b63, rfl, -, rfl⟩
              refine ⟨.inr (fun _ h => h.tail.tail.tail.tail), ?_⟩
              refine JM.one (i := 14) (by kernel_rfl) ?_
              refine JMi.eff rfl rfl rfl rfl (m' := 32767) rfl (Eff.append rfl rfl rfl rfl (by first | rfl | omega | (simp; done) | (simp; omega)) (by first | rfl | omega | (simp; done) | (simp; omega)) (by decide) (by simp; omega) (by simp; omega) (fun h => by cases h)) ?_
              rintro _ _ ⟨a64, c64, rfl, rfl⟩
              refine ⟨.inr (fun _ h => h.tail.tail.tail.tail), ?_⟩
              refine JM.take 15 (fun _ h => h.tail.tail.tail.tail) rfl (by kernel_rfl) rfl rfl rfl (m' := 65535) rfl (Pur.assign rfl) ?_
              refine JM.done rfl ?_
              refine J.inBlock ?_
              refine J.region rfl ?_
              refine JO.pur rfl rfl rfl (Pur.move rfl) ?_
              refine JO.pur rfl rfl rfl (Pur.add rfl rfl (wr64 (by omega))) ?_
              refine JO.pur rfl rfl rfl (Pur.assign rfl) ?_
              refine JO.nil ?_
              exact J.weaken (.cons rfl (by show Value.slice a64 _ c64 = Value.slice a64 (j * cnt r + (i + 1)) c64; rw [hh11]; rfl) (.cons rfl (congrArg (Value.int .i64) (by first | rfl | (dsimp only; omega))) (.cons rfl rfl (.cons rfl rfl (.cons rfl rfl (.cons rfl rfl (.cons rfl rfl .nil))))))) (fun h s => by have s2 := snoc_row (E := intE) (a := a62) (n := (([] ++ o1).length + [atR r (i : Int)].length)) (cap := c62) (xs := [] ++ o1 ++ [atR r (i : Int)]) (hs := hs11) (xss := (addD (idx ((canD rs).take k)) r).take (j * cnt r + i)) (by simp) s; rw [← hap2] at s2; dsimp only; exact SubC.out h s2) (ihi (i + 1, a64, c64, hs11 ++ [⟨a62, (([] ++ o1).length + [atR r (i : Int)].length), c62⟩]) ⟨by dsimp only; omega, by simp [hh11]; omega⟩ (by dsimp only; omega))
          · skip
            refine JMi.eff rfl rfl rfl rfl (m' := 4029) rfl (Eff.buildSlice intE [atR r (i : Int)] rfl rfl rfl rfl rfl rfl rfl) ?_
            rintro _ _ ⟨b61, rfl, -, rfl⟩
            refine ⟨.inr (fun _ h => h.tail.tail), ?_⟩
            refine JM.one (i := 1) (by kernel_rfl) ?_
            refine JMi.eff rfl rfl rfl rfl (m' := 4031) rfl (Eff.buildSlice intE ([] : List Int) rfl rfl rfl rfl rfl rfl rfl) ?_
            rintro _ _ ⟨b51, rfl, -, rfl⟩
            refine ⟨.inr (fun _ h => h.tail.tail.tail), ?_⟩
            refine JM.one (i := 6) (by kernel_rfl) ?_
            refine JMi.eff rfl rfl rfl rfl (m' := 4095) rfl (Eff.append (hi := RowsR.row (E := intE) inferInstance hH ho1) rfl rfl rfl rfl rfl hdn (by decide) (by simp; omega) (by simp; omega) hfit.1) ?_
            rintro _ _ ⟨a56, c56, rfl, rfl⟩
            refine ⟨.inr (fun _ h => h.tail.tail.tail), ?_⟩
            refine JM.one (i := 12) (by kernel_rfl) ?_
            refine JMi.eff rfl rfl rfl rfl (m' := 8191) rfl (Eff.append rfl rfl rfl rfl (by first | rfl | omega | (simp; done) | (simp; omega)) (by first | rfl | omega | (simp; done) | (simp; omega)) (by decide) (by simp; omega) (by simp; omega) (fun h => by cases h)) ?_
            rintro _ _ ⟨a62, c62, rfl, rfl⟩
            refine ⟨.inr (fun _ h => h.tail.tail.tail), ?_⟩
            refine JM.one (i := 13) (by kernel_rfl) ?_
            refine JMi.eff rfl rfl rfl rfl (m' := 16383) rfl (Eff.buildSlice hE [⟨a62, (([] ++ o1).length + [atR r (i : Int)].length), c62⟩] rfl rfl rfl rfl rfl rfl rfl) ?_
            rintro _ _ ⟨b63, rfl, -, rfl⟩
            refine ⟨.inr (fun _ h => h.tail.tail.tail.tail), ?_⟩
            refine JM.one (i := 14) (by kernel_rfl) ?_
            refine JMi.eff rfl rfl rfl rfl (m' := 32767) rfl (Eff.append rfl rfl rfl rfl (by first | rfl | omega | (simp; done) | (simp; omega)) (by first | rfl | omega | (simp; done) | (simp; omega)) (by decide) (by simp; omega) (by simp; omega) (fun h => by cases h)) ?_
            rintro _ _ ⟨a64, c64, rfl, rfl⟩
            refine ⟨.inr (fun _ h => h.tail.tail.tail.tail), ?_⟩
            refine JM.take 15 (fun _ h => h.tail.tail.tail.tail) rfl (by kernel_rfl) rfl rfl rfl (m' := 65535) rfl (Pur.assign rfl) ?_
            refine JM.done rfl ?_
            refine J.inBlock ?_
            refine J.region rfl ?_
            refine JO.pur rfl rfl rfl (Pur.move rfl) ?_
            refine JO.pur rfl rfl rfl (Pur.add rfl rfl (wr64 (by omega))) ?_
            refine JO.pur rfl rfl rfl (Pur.assign rfl) ?_
            refine JO.nil ?_
            exact J.weaken (.cons rfl (by show Value.slice a64 _ c64 = Value.slice a64 (j * cnt r + (i + 1)) c64; rw [hh11]; rfl) (.cons rfl (congrArg (Value.int .i64) (by first | rfl | (dsimp only; omega))) (.cons rfl rfl (.cons rfl rfl (.cons rfl rfl (.cons rfl rfl (.cons rfl rfl .nil))))))) (fun h s => by have s2 := snoc_row (E := intE) (a := a62) (n := (([] ++ o1).length + [atR r (i : Int)].length)) (cap := c62) (xs := [] ++ o1 ++ [atR r (i : Int)]) (hs := hs11) (xss := (addD (idx ((canD rs).take k)) r).take (j * cnt r + i)) (by simp) s; rw [← hap2] at s2; dsimp only; exact SubC.out h s2) (ihi (i + 1, a64, c64, hs11 ++ [⟨a62, (([] ++ o1).length + [atR r (i : Int)].length), c62⟩]) ⟨by dsimp only; omega, by simp [hh11]; omega⟩ (by dsimp only; omega))
        · try simp only [decide_eq_true_eq, decide_eq_false_iff_not, Bool.not_eq_true', Bool.not_eq_false', Bool.and_eq_true, Bool.or_eq_true, Bool.and_eq_false_iff, Bool.or_eq_false_iff, Option.isNone_some, Option.isSome_some, Option.isNone_none, Option.isSome_none, Int.not_lt, Int.not_le, beq_iff_eq, beq_eq_false_iff_ne, bne_iff_ne, ne_eq, Bool.not_not, Decidable.not_not] at h47
          have hii : i = cnt r := by omega
          have hjn : j * cnt r + i = (j + 1) * cnt r := by rw [hsm, hii]
          refine J.condF rfl rfl ?_
          refine J.exit rfl rfl ?_
          refine J.inBlock ?_
          refine J.region rfl ?_
          refine JO.pur rfl rfl rfl (Pur.move rfl) ?_
          refine JO.pur rfl rfl rfl (Pur.add rfl rfl (wr64 (by omega))) ?_
          refine JO.pur rfl rfl rfl (Pur.assign rfl) ?_
          refine JO.nil ?_
          exact J.weaken (.cons rfl (by dsimp only; rw [← hjn]) (.cons rfl (congrArg (Value.int .i64) (by first | rfl | (dsimp only; omega))) (.cons rfl rfl (.cons rfl rfl (.cons rfl rfl (.cons rfl rfl .nil)))))) (fun h s => by dsimp only; rw [← hjn]; exact SubC.out h s) (ihj (j + 1, a11, c11, hs11) ⟨by dsimp only; omega, by dsimp only; rw [← hjn]; exact hh11⟩ (by dsimp only; omega))
      · try simp only [decide_eq_true_eq, decide_eq_false_iff_not, Bool.not_eq_true', Bool.not_eq_false', Bool.and_eq_true, Bool.or_eq_true, Bool.and_eq_false_iff, Bool.or_eq_false_iff, Option.isNone_some, Option.isSome_some, Option.isNone_none, Option.isSome_none, Int.not_lt, Int.not_le, beq_iff_eq, beq_eq_false_iff_ne, bne_iff_ne, ne_eq, Bool.not_not, Decidable.not_not] at h41
        have hjj : j = cntD ((canD rs).take k) := by omega
        have hfull : (addD (idx ((canD rs).take k)) r).take (cntD ((canD rs).take k) * cnt r) = addD (idx ((canD rs).take k)) r := by rw [← hal, List.take_length]
        refine J.condF rfl rfl ?_
        refine J.exit rfl rfl ?_
        refine J.region rfl ?_
        refine JO.pur rfl rfl rfl (Pur.move rfl) ?_
        refine JO.pur rfl rfl rfl (Pur.assign rfl) ?_
        refine JO.nil ?_
        refine J.inBlock ?_
        refine J.region rfl ?_
        refine JO.pur rfl rfl rfl (Pur.move rfl) ?_
        refine JO.pur rfl rfl rfl (Pur.add rfl rfl (wr64 (by omega))) ?_
        refine JO.pur rfl rfl rfl (Pur.assign rfl) ?_
        refine JO.nil ?_
        exact J.weaken (.cons rfl (by dsimp only; rw [hct, hjj]) (.cons rfl (congrArg (Value.int .i64) (by first | rfl | (dsimp only; omega))) (.cons rfl rfl .nil))) (fun h s => by rw [hjj, hfull] at s; rw [hix]; exact SubC.out h s) (ih0 (k + 1, a10, c10, hs10) ⟨by dsimp only; omega, by dsimp only; rw [hct, hh10, hjj]⟩ (by dsimp only; omega))
    · try simp only [decide_eq_true_eq, decide_eq_false_iff_not, Bool.not_eq_true', Bool.not_eq_false', Bool.and_eq_true, Bool.or_eq_true, Bool.and_eq_false_iff, Bool.or_eq_false_iff, Option.isNone_some, Option.isSome_some, Option.isNone_none, Option.isSome_none, Int.not_lt, Int.not_le, beq_iff_eq, beq_eq_false_iff_ne, bne_iff_ne, ne_eq, Bool.not_not, Decidable.not_not] at h26
      have hke : k = rs.length := by omega
      have hidx : idx ((canD rs).take k) = idx rs := by rw [hke, ← hcl, List.take_length]; exact canD_idx hgood.2.2.1 hne
      have hcnt : cntD ((canD rs).take k) = (idx rs).length := by rw [← idx_len_take (canD rs) k (by omega), hidx]
      refine J.condF rfl rfl ?_
      refine J.exit rfl rfl ?_
      refine J.seq rfl ?_
      refine J.region rfl ?_
      refine JO.pur rfl rfl rfl (Pur.move rfl) ?_
      refine JO.pur rfl rfl rfl (Pur.assign rfl) ?_
      refine JO.pur rfl rfl rfl (Pur.assign rfl) ?_
      refine JO.nil ?_
      refine J.ret rfl rfl ?_
      have hv : ixsV rs = idx rs := by unfold ixsV; rw [if_pos hgood]
      refine ⟨_, _, ⟨a6, c6, hs6, rfl, rfl⟩, by rw [hv, hcnt]; unfold erD; rw [if_pos hgood]; rfl, fun h s => ?_⟩
      rw [hv]
      rw [hidx] at s
      exact SubC.out h s

end Go.Proofs.Ytnhippfllgnngaa

/- The text SC3. -/
set_option linter.unusedVariables false
set_option linter.unusedSimpArgs false
set_option maxRecDepth 10000
namespace Go.Proofs.Ytnhippfllgnngaa
open Go Go.KK Dm

/-- A list of which i at each end have changed places. -/
def rvL {α : Type} [Inhabited α] (xs : List α) (i : Nat) : List α := (List.range xs.length).map fun k => if k < i ∨ xs.length - 1 - k < i then xs.getD (xs.length - 1 - k) default else xs.getD k default
theorem getD_some {α : Type} [Inhabited α] {xs : List α} {k : Nat} (h : k < xs.length) : xs[k]? = some (xs.getD k default) := by
  rw [List.getD_eq_getElem?_getD, List.getElem?_eq_getElem h]; rfl
end Go.Proofs.Ytnhippfllgnngaa

/- The text SC4. -/
set_option linter.unusedVariables false
set_option linter.unusedSimpArgs false
set_option maxRecDepth 10000
namespace Go.Proofs.Ytnhippfllgnngaa
open Go Go.KK Dm

def trD (rs : List Rg) : List Rg := if okD rs then (canD rs).reverse else []
theorem ixs_len (rs : List Rg) : (((ixsV rs).length : Nat) : Int) = ctV rs := by
  unfold ixsV ctV
  split
  · rw [idx_len]
  · rfl
theorem erD_ne {rs : List Rg} : erD rs ≠ 0 ↔ ¬ okD rs := by
  unfold erD
  by_cases h : okD rs
  · rw [if_pos h]; simp [h]
  · rw [if_neg h]; simp [h]
theorem r_Count {L : List Asn} {a : Option Addr} {n cap : Nat} {rs : List Rg} [SlIn rgE L a rs] (hn : n = rs.length) :
    CallS Try.prog 63 [.agg #[.slice a n cap]].toArray L (fun v M => v = .tuple #[.int .i64 (ctV rs), .int .i64 (erD rs)] ∧ M = L) := by
  subst hn
  refine CallS.ent ?_
  refine CallS.enter Try.func63 rfl rfl rfl rfl rfl ?_
  refine J.seq rfl ?_
  refine J.region rfl ?_
  refine JO.eff rfl rfl rfl (Eff.box (cs := [_]) rfl rfl) ?_
  rintro _ _ ⟨b1, rfl, rfl⟩
  refine JO.pur rfl rfl rfl (Pur.assign rfl) ?_
  refine JO.pur rfl rfl rfl (Pur.assign rfl) ?_
  refine JO.nil ?_
  refine J.seq rfl ?_
  refine J.region rfl ?_
  refine JO.pur rfl rfl rfl (Pur.loadA rfl rfl rfl CellsIn.blk) ?_
  refine JO.eff rfl rfl rfl (Eff.call rfl (r_Indexes (rs := rs) rfl)) ?_
  rintro _ _ ⟨a8, c8, hs, rfl, rfl⟩
  refine JO.pur rfl rfl rfl (Pur.move rfl) ?_
  refine JO.pur rfl rfl rfl (Pur.extract rfl rfl) ?_
  refine JO.pur rfl rfl rfl (Pur.extract rfl rfl) ?_
  refine JO.pur rfl rfl rfl (Pur.assign rfl) ?_
  refine JO.pur rfl rfl rfl (Pur.assign rfl) ?_
  refine JO.nil ?_
  refine J.seq rfl ?_
  refine J.region rfl ?_
  refine JO.pur rfl rfl rfl (Pur.move rfl) ?_
  refine JO.pur rfl rfl rfl (Pur.len rfl) ?_
  refine JO.pur rfl rfl rfl (Pur.move rfl) ?_
  refine JO.pur rfl rfl rfl (Pur.assign rfl) ?_
  refine JO.pur rfl rfl rfl (Pur.assign rfl) ?_
  refine JO.nil ?_
  refine J.ret rfl rfl ?_
  refine ⟨_, _, ⟨rfl, rfl⟩, ?_, SubC.out⟩
  rw [← ixs_len]; rfl

theorem rd_nil {α : Type} {E : Enc α} {a : Option Addr} {L : List Asn} {h : Hp} (s : Sat h L) : Sat h (rd E a ([] : List α) :: L) := by
  refine ⟨fun _ => none, h, fun _ => .inl rfl, (fun _ _ hx => (by cases hx)), Hp.le_refl _, ?_, s⟩
  unfold rd; exact .inl rfl
theorem rd_of {α : Type} {E : Enc α} {a : Option Addr} {c : Nat} {xs : List α} {L : List Asn} {h : Hp} (s : Sat h (sl E a c xs :: L)) : Sat h (rd E a xs :: L) :=
  s.cons_imp (fun k hk => by unfold rd; exact sl.slR hk) (fun _ h => h)
theorem rd_row {α : Type} {E : Enc α} {hs : List Hdr} {xss : List (List α)} {i : Nat} {hd : Hdr} {xs : List α} {L : List Asn} {h : Hp} (h1 : hs[i]? = some hd) (h2 : xss[i]? = some xs) (s : Sat h (rows E hs xss :: L)) : Sat h (rd E hd.a xs :: L) :=
  rd_of ((rows_open h1 h2 s).cons_imp (fun _ h => h) (fun _ h => h.tail))
theorem r_Ith {L : List Asn} {a : Option Addr} {n cap : Nat} {rs : List Rg} {i : Int} [SlIn rgE L a rs] (hn : n = rs.length) :
    CallS Try.prog 153 [.agg #[.slice a n cap], .int .i64 i].toArray L (fun v M => ∃ a' c', v = .tuple #[.slice a' (ithV rs i).1.length c', .int .i64 (ithV rs i).2] ∧ M = rd intE a' (ithV rs i).1 :: L) := by
  subst hn
  refine CallS.ent ?_
  refine CallS.enter Try.func153 rfl rfl rfl rfl rfl ?_
  refine J.seq rfl ?_
  refine J.region rfl ?_
  refine JO.eff rfl rfl rfl (Eff.box (cs := [_]) rfl rfl) ?_
  rintro _ _ ⟨b2, rfl, rfl⟩
  refine JO.pur rfl rfl rfl (Pur.assign rfl) ?_
  refine JO.pur rfl rfl rfl (Pur.assign rfl) ?_
  refine JO.nil ?_
  refine J.seq rfl ?_
  refine J.region rfl ?_
  refine JO.pur rfl rfl rfl (Pur.loadA rfl rfl rfl CellsIn.blk) ?_
  refine JO.eff rfl rfl rfl (Eff.call rfl (r_Indexes (rs := rs) rfl)) ?_
  rintro _ _ ⟨a10, c10, hs, rfl, rfl⟩
  refine JO.pur rfl rfl rfl (Pur.move rfl) ?_
  refine JO.pur rfl rfl rfl (Pur.extract rfl rfl) ?_
  refine JO.pur rfl rfl rfl (Pur.extract rfl rfl) ?_
  refine JO.setv (u' := .int .i64 (erD rs)) 12 rfl rfl ?_
  refine JO.pur rfl rfl rfl (Pur.assign rfl) ?_
  refine JO.pur rfl rfl rfl (Pur.assign rfl) ?_
  refine JO.nil ?_
  refine J.seq rfl ?_
  refine J.block rfl ?_
  refine J.seq rfl ?_
  refine J.region rfl ?_
  refine JO.pur rfl rfl rfl (Pur.move rfl) ?_
  refine JO.pur rfl rfl rfl (Pur.neqI rfl rfl) ?_
  refine JO.pur rfl rfl rfl (Pur.assign rfl) ?_
  refine JO.nil ?_
  refine J.splitB 13 rfl (fun h13 => ?_) (fun h13 => ?_)
  · try simp only [decide_eq_true_eq, decide_eq_false_iff_not, Bool.not_eq_true', Bool.not_eq_false', Bool.and_eq_true, Bool.or_eq_true, Bool.and_eq_false_iff, Bool.or_eq_false_iff, Option.isNone_some, Option.isSome_some, Option.isNone_none, Option.isSome_none, Int.not_lt, Int.not_le, beq_iff_eq, beq_eq_false_iff_ne, bne_iff_ne, ne_eq, Bool.not_not, Decidable.not_not] at h13
    have hbad : ¬ okD rs := erD_ne.1 (by simpa using h13)
    refine J.condT rfl rfl ?_
    refine J.seq rfl ?_
    refine J.region rfl ?_
    refine JO.pur rfl rfl rfl (Pur.move rfl) ?_
    refine JO.pur rfl rfl rfl (Pur.assign rfl) ?_
    refine JO.pur rfl rfl rfl (Pur.assign rfl) ?_
    refine JO.nil ?_
    refine J.ret rfl rfl ?_
    have hv : ithV rs i = ([], 40) := by unfold ithV; rw [if_pos hbad]
    have he : erD rs = 40 := by unfold erD; rw [if_neg hbad]
    refine ⟨_, _, ⟨none, 0, rfl, rfl⟩, by rw [hv, he]; rfl, fun h s => ?_⟩
    rw [hv]; exact rd_nil (SubC.out h s)
  · try simp only [decide_eq_true_eq, decide_eq_false_iff_not, Bool.not_eq_true', Bool.not_eq_false', Bool.and_eq_true, Bool.or_eq_true, Bool.and_eq_false_iff, Bool.or_eq_false_iff, Option.isNone_some, Option.isSome_some, Option.isNone_none, Option.isSome_none, Int.not_lt, Int.not_le, beq_iff_eq, beq_eq_false_iff_ne, bne_iff_ne, ne_eq, Bool.not_not, Decidable.not_not] at h13
    have hgood : okD rs := by
      by_cases g : okD rs
      · exact g
      · exact absurd (erD_ne.2 g) (by simpa using h13)
    have hv0 : ixsV rs = idx rs := by unfold ixsV; rw [if_pos hgood]
    have hil : (ixsV rs).length = cntD rs := by rw [hv0, idx_len]
    refine J.condF rfl rfl ?_
    refine J.seq rfl ?_
    refine J.region rfl ?_
    refine JO.pur rfl rfl rfl (Pur.move rfl) ?_
    refine JO.pur rfl rfl rfl (Pur.lss rfl rfl) ?_
    refine JO.pur rfl rfl rfl (Pur.move rfl) ?_
    refine JO.splitB 20 rfl (fun h20 => ?_) (fun h20 => ?_)
    · try simp only [decide_eq_true_eq, decide_eq_false_iff_not, Bool.not_eq_true', Bool.not_eq_false', Bool.and_eq_true, Bool.or_eq_true, Bool.and_eq_false_iff, Bool.or_eq_false_iff, Option.isNone_some, Option.isSome_some, Option.isNone_none, Option.isSome_none, Int.not_lt, Int.not_le, beq_iff_eq, beq_eq_false_iff_ne, bne_iff_ne, ne_eq, Bool.not_not, Decidable.not_not] at h20
      refine JO.no rfl rfl rfl ?_
      refine JO.no rfl rfl rfl ?_
      refine JO.no rfl rfl rfl ?_
      refine JO.no rfl rfl rfl ?_
      refine JO.pur rfl rfl rfl (Pur.pickT rfl rfl) ?_
      refine JO.pur rfl rfl rfl (Pur.assign rfl) ?_
      refine JO.nil ?_
      refine J.condT rfl rfl ?_
      refine J.seq rfl ?_
      refine J.region rfl ?_
      refine JO.pur rfl rfl rfl (Pur.assign rfl) ?_
      refine JO.pur rfl rfl rfl (Pur.assign rfl) ?_
      refine JO.nil ?_
      refine J.ret rfl rfl ?_
      have hv : ithV rs i = ([], 2) := by unfold ithV; rw [if_neg (not_not_intro hgood), if_pos (by omega)]
      refine ⟨_, _, ⟨none, 0, rfl, rfl⟩, by rw [hv]; rfl, fun h s => ?_⟩
      rw [hv]; exact rd_nil (SubC.out h s)
    · try simp only [decide_eq_true_eq, decide_eq_false_iff_not, Bool.not_eq_true', Bool.not_eq_false', Bool.and_eq_true, Bool.or_eq_true, Bool.and_eq_false_iff, Bool.or_eq_false_iff, Option.isNone_some, Option.isSome_some, Option.isNone_none, Option.isSome_none, Int.not_lt, Int.not_le, beq_iff_eq, beq_eq_false_iff_ne, bne_iff_ne, ne_eq, Bool.not_not, Decidable.not_not] at h20
      refine JO.pur rfl rfl rfl (Pur.move rfl) ?_
      refine JO.pur rfl rfl rfl (Pur.move rfl) ?_
      refine JO.pur rfl rfl rfl (Pur.len rfl) ?_
      refine JO.pur rfl rfl rfl (Pur.geq rfl rfl) ?_
      refine JO.pur rfl rfl rfl (Pur.pickF rfl rfl) ?_
      refine JO.pur rfl rfl rfl (Pur.assign rfl) ?_
      refine JO.nil ?_
      refine J.splitB 17 rfl (fun h17 => ?_) (fun h17 => ?_)
      · try simp only [decide_eq_true_eq, decide_eq_false_iff_not, Bool.not_eq_true', Bool.not_eq_false', Bool.and_eq_true, Bool.or_eq_true, Bool.and_eq_false_iff, Bool.or_eq_false_iff, Option.isNone_some, Option.isSome_some, Option.isNone_none, Option.isSome_none, Int.not_lt, Int.not_le, beq_iff_eq, beq_eq_false_iff_ne, bne_iff_ne, ne_eq, Bool.not_not, Decidable.not_not] at h17
        refine J.condT rfl rfl ?_
        refine J.seq rfl ?_
        refine J.region rfl ?_
        refine JO.pur rfl rfl rfl (Pur.assign rfl) ?_
        refine JO.pur rfl rfl rfl (Pur.assign rfl) ?_
        refine JO.nil ?_
        refine J.ret rfl rfl ?_
        have hv : ithV rs i = ([], 2) := by unfold ithV; rw [if_neg (not_not_intro hgood), if_pos (by omega)]
        refine ⟨_, _, ⟨none, 0, rfl, rfl⟩, by rw [hv]; rfl, fun h s => ?_⟩
        rw [hv]; exact rd_nil (SubC.out h s)
      · try simp only [decide_eq_true_eq, decide_eq_false_iff_not, Bool.not_eq_true', Bool.not_eq_false', Bool.and_eq_true, Bool.or_eq_true, Bool.and_eq_false_iff, Bool.or_eq_false_iff, Option.isNone_some, Option.isSome_some, Option.isNone_none, Option.isSome_none, Int.not_lt, Int.not_le, beq_iff_eq, beq_eq_false_iff_ne, bne_iff_ne, ne_eq, Bool.not_not, Decidable.not_not] at h17
        refine J.condF rfl rfl ?_
        refine J.skip rfl ?_
        refine J.inBlock ?_
        refine J.seq rfl ?_
        obtain ⟨j, hj⟩ : ∃ j : Nat, i = (j : Int) := ⟨i.toNat, by omega⟩
        subst hj
        have hjl : j < cntD rs := by omega
        refine J.fact (fun h s => RowsR.len (E := intE) (hs := hs) (xss := ixsV rs) s) fun hnn => ?_
        have hhl : hs.length = (ixsV rs).length := rows_len hnn
        obtain ⟨hd, hH⟩ : ∃ hd, hs[j]? = some hd := ⟨_, List.getElem?_eq_getElem (by omega)⟩
        have hX : (ixsV rs)[j]? = some (ixD rs j) := by rw [hv0]; exact ixD_get hjl
        have hdn := hdr_n hnn hH hX
        refine J.region rfl ?_
        refine JO.pur rfl rfl rfl (Pur.move rfl) ?_
        refine JO.pur rfl rfl rfl (Pur.move rfl) ?_
        refine JO.pur rfl rfl rfl (Pur.idx rfl rfl rfl (by first | rfl | (simp; done) | omega) rfl (by omega)) ?_
        refine JO.pur rfl rfl rfl (Pur.load rfl (CellIn.el0 rfl hH rfl)) ?_
        refine JO.pur rfl rfl rfl (Pur.assign rfl) ?_
        refine JO.pur rfl rfl rfl (Pur.assign rfl) ?_
        refine JO.nil ?_
        refine J.ret rfl rfl ?_
        have hv : ithV rs ((j : Nat) : Int) = (ixD rs j, 0) := by unfold ithV; rw [if_neg (not_not_intro hgood), if_neg (by omega)]; rfl
        refine ⟨_, _, ⟨hd.a, hd.cap, rfl, rfl⟩, by rw [hv, ← hdn]; rfl, fun h s => ?_⟩
        rw [hv]
        exact rd_row hH hX (SubC.out h s)

theorem r_Place {L : List Asn} {a b : Option Addr} {n cap m cq : Nat} {rs : List Rg} {x : List Int} [SlIn rgE L a rs] [SlIn intE L b x] (hn : n = rs.length) (hm : m = x.length) :
    CallS Try.prog 103 [.agg #[.slice a n cap], .slice b m cq].toArray L (fun v M => v = .tuple #[.int .i64 (plV rs x).1, .int .i64 (plV rs x).2] ∧ M = L) := by
  subst hn
  subst hm
  refine CallS.ent ?_
  refine CallS.enter Try.func103 rfl rfl rfl rfl rfl ?_
  refine J.seq rfl ?_
  refine J.region rfl ?_
  refine JO.eff rfl rfl rfl (Eff.box (cs := [_]) rfl rfl) ?_
  rintro _ _ ⟨b2, rfl, rfl⟩
  refine JO.pur rfl rfl rfl (Pur.assign rfl) ?_
  refine JO.pur rfl rfl rfl (Pur.assign rfl) ?_
  refine JO.nil ?_
  refine J.seq rfl ?_
  refine J.region rfl ?_
  refine JO.pur rfl rfl rfl (Pur.loadA rfl rfl rfl CellsIn.blk) ?_
  refine JO.eff rfl rfl rfl (Eff.call rfl (r_Indexes (rs := rs) rfl)) ?_
  rintro _ _ ⟨a11, c11, hs, rfl, rfl⟩
  refine JO.pur rfl rfl rfl (Pur.move rfl) ?_
  refine JO.pur rfl rfl rfl (Pur.extract rfl rfl) ?_
  refine JO.pur rfl rfl rfl (Pur.extract rfl rfl) ?_
  refine JO.setv (u' := .int .i64 (erD rs)) 13 rfl rfl ?_
  refine JO.pur rfl rfl rfl (Pur.assign rfl) ?_
  refine JO.pur rfl rfl rfl (Pur.assign rfl) ?_
  refine JO.nil ?_
  refine J.seq rfl ?_
  refine J.block rfl ?_
  refine J.seq rfl ?_
  refine J.region rfl ?_
  refine JO.pur rfl rfl rfl (Pur.move rfl) ?_
  refine JO.pur rfl rfl rfl (Pur.neqI rfl rfl) ?_
  refine JO.pur rfl rfl rfl (Pur.assign rfl) ?_
  refine JO.nil ?_
  refine J.splitB 14 rfl (fun h14 => ?_) (fun h14 => ?_)
  · try simp only [decide_eq_true_eq, decide_eq_false_iff_not, Bool.not_eq_true', Bool.not_eq_false', Bool.and_eq_true, Bool.or_eq_true, Bool.and_eq_false_iff, Bool.or_eq_false_iff, Option.isNone_some, Option.isSome_some, Option.isNone_none, Option.isSome_none, Int.not_lt, Int.not_le, beq_iff_eq, beq_eq_false_iff_ne, bne_iff_ne, ne_eq, Bool.not_not, Decidable.not_not] at h14
    have hbad : ¬ okD rs := erD_ne.1 (by simpa using h14)
    refine J.condT rfl rfl ?_
    refine J.seq rfl ?_
    refine J.region rfl ?_
    refine JO.pur rfl rfl rfl (Pur.move rfl) ?_
    refine JO.pur rfl rfl rfl (Pur.assign rfl) ?_
    refine JO.pur rfl rfl rfl (Pur.assign rfl) ?_
    refine JO.nil ?_
    refine J.ret rfl rfl ?_
    have he : erD rs = 40 := by unfold erD; rw [if_neg hbad]
    refine ⟨_, _, ⟨rfl, rfl⟩, ?_, SubC.out⟩
    unfold plV; rw [if_pos hbad, he]; rfl
  · try simp only [decide_eq_true_eq, decide_eq_false_iff_not, Bool.not_eq_true', Bool.not_eq_false', Bool.and_eq_true, Bool.or_eq_true, Bool.and_eq_false_iff, Bool.or_eq_false_iff, Option.isNone_some, Option.isSome_some, Option.isNone_none, Option.isSome_none, Int.not_lt, Int.not_le, beq_iff_eq, beq_eq_false_iff_ne, bne_iff_ne, ne_eq, Bool.not_not, Decidable.not_not] at h14
    have hgood : okD rs := by
      by_cases g : okD rs
      · exact g
      · exact absurd (erD_ne.2 g) (by simpa using h14)
    have hv0 : ixsV rs = idx rs := by unfold ixsV; rw [if_pos hgood]
    have hil : (ixsV rs).length = cntD rs := by rw [hv0, idx_len]
    have hc4 := hgood.2.2.2
    have hl3 := hgood.2.1
    refine J.condF rfl rfl ?_
    refine J.seq rfl ?_
    refine J.region rfl ?_
    refine JO.pur rfl rfl rfl (Pur.move rfl) ?_
    refine JO.pur rfl rfl rfl (Pur.len rfl) ?_
    refine JO.pur rfl rfl rfl (Pur.fieldAddr rfl) ?_
    refine JO.pur rfl rfl rfl (Pur.load rfl (CellIn.blk rfl)) ?_
    refine JO.pur rfl rfl rfl (Pur.len rfl) ?_
    refine JO.pur rfl rfl rfl (Pur.neqI rfl rfl) ?_
    refine JO.pur rfl rfl rfl (Pur.assign rfl) ?_
    refine JO.nil ?_
    refine J.splitB 18 rfl (fun h18 => ?_) (fun h18 => ?_)
    · try simp only [decide_eq_true_eq, decide_eq_false_iff_not, Bool.not_eq_true', Bool.not_eq_false', Bool.and_eq_true, Bool.or_eq_true, Bool.and_eq_false_iff, Bool.or_eq_false_iff, Option.isNone_some, Option.isSome_some, Option.isNone_none, Option.isSome_none, Int.not_lt, Int.not_le, beq_iff_eq, beq_eq_false_iff_ne, bne_iff_ne, ne_eq, Bool.not_not, Decidable.not_not] at h18
      have hle : x.length ≠ rs.length := by omega
      refine J.condT rfl rfl ?_
      refine J.seq rfl ?_
      refine J.region rfl ?_
      refine JO.pur rfl rfl rfl (Pur.assign rfl) ?_
      refine JO.pur rfl rfl rfl (Pur.assign rfl) ?_
      refine JO.nil ?_
      refine J.ret rfl rfl ?_
      refine ⟨_, _, ⟨rfl, rfl⟩, ?_, SubC.out⟩
      unfold plV; rw [if_neg (not_not_intro hgood), if_pos hle]; rfl
    · try simp only [decide_eq_true_eq, decide_eq_false_iff_not, Bool.not_eq_true', Bool.not_eq_false', Bool.and_eq_true, Bool.or_eq_true, Bool.and_eq_false_iff, Bool.or_eq_false_iff, Option.isNone_some, Option.isSome_some, Option.isNone_none, Option.isSome_none, Int.not_lt, Int.not_le, beq_iff_eq, beq_eq_false_iff_ne, bne_iff_ne, ne_eq, Bool.not_not, Decidable.not_not] at h18
      have hle : x.length = rs.length := by omega
      refine J.fact (fun h s => RowsR.len (E := intE) (hs := hs) (xss := ixsV rs) s) fun hnn => ?_
      have hhl : hs.length = (ixsV rs).length := rows_len hnn
      refine J.condF rfl rfl ?_
      refine J.skip rfl ?_
      refine J.inBlock ?_
      refine J.seq rfl ?_
      refine J.seq rfl ?_
      refine J.region rfl ?_
      refine JO.pur rfl rfl rfl (Pur.assign rfl) ?_
      refine JO.nil ?_
      refine J.block rfl ?_
      refine J.loopF (ι := Nat) (fun q => q ≤ cntD rs ∧ ∀ j, j < q → (idx rs)[j]? ≠ some x) (fun q => [(8, .int .i64 (q : Int))]) [(1, _), (6, _)] (fun q => sl hE a11 c11 hs :: rows intE hs (ixsV rs) :: L) (fun q => cntD rs - q) 0 rfl (.cons rfl rfl (.cons rfl rfl .nil)) (.cons rfl rfl .nil) (by first | exact fun _ h => h | exact SubC.out | (dsimp only; exact SubC.out)) ⟨Nat.zero_le _, fun j hj => by omega⟩ ?_
      rintro k ⟨hk, hno⟩ ih0
      try dsimp only
      refine J.seq rfl ?_
      refine J.seq rfl ?_
      refine J.region rfl ?_
      refine JO.pur rfl rfl rfl (Pur.move rfl) ?_
      refine JO.pur rfl rfl rfl (Pur.move rfl) ?_
      refine JO.pur rfl rfl rfl (Pur.len rfl) ?_
      refine JO.pur rfl rfl rfl (Pur.lss rfl rfl) ?_
      refine JO.nil ?_
      refine J.splitB 28 rfl (fun h28 => ?_) (fun h28 => ?_)
      · try simp only [decide_eq_true_eq, decide_eq_false_iff_not, Bool.not_eq_true', Bool.not_eq_false', Bool.and_eq_true, Bool.or_eq_true, Bool.and_eq_false_iff, Bool.or_eq_false_iff, Option.isNone_some, Option.isSome_some, Option.isNone_none, Option.isSome_none, Int.not_lt, Int.not_le, beq_iff_eq, beq_eq_false_iff_ne, bne_iff_ne, ne_eq, Bool.not_not, Decidable.not_not] at h28
        have hkl : k < cntD rs := by omega
        obtain ⟨hd, hH⟩ : ∃ hd, hs[k]? = some hd := ⟨_, List.getElem?_eq_getElem (by omega)⟩
        have hX : (ixsV rs)[k]? = some (ixD rs k) := by rw [hv0]; exact ixD_get hkl
        have hdn := hdr_n hnn hH hX
        have hXl := ixD_len hkl
        refine J.condT rfl rfl ?_
        refine J.skip rfl ?_
        refine J.seq rfl ?_
        refine J.block rfl ?_
        refine J.seq rfl ?_
        refine J.region rfl ?_
        refine JO.pur rfl rfl rfl (Pur.move rfl) ?_
        refine JO.pur rfl rfl rfl (Pur.move rfl) ?_
        refine JO.pur rfl rfl rfl (Pur.idx rfl rfl rfl (by first | rfl | (simp; done) | omega) rfl (by omega)) ?_
        refine JO.pur rfl rfl rfl (Pur.load rfl (CellIn.el0 rfl hH rfl)) ?_
        refine JO.pur rfl rfl rfl (Pur.move rfl) ?_
        refine JO.effR rfl rfl rfl (Eff.call rfl (@same4_ok _ _ _ _ _ _ _ (ixD rs k) x (RowsR.row (E := intE) inferInstance hH hX) inferInstance hdn rfl (by omega))) ?_
        refine JO.nil ?_
        refine J.splitB 36 rfl (fun h36 => ?_) (fun h36 => ?_)
        · try simp only [decide_eq_true_eq, decide_eq_false_iff_not, Bool.not_eq_true', Bool.not_eq_false', Bool.and_eq_true, Bool.or_eq_true, Bool.and_eq_false_iff, Bool.or_eq_false_iff, Option.isNone_some, Option.isSome_some, Option.isNone_none, Option.isSome_none, Int.not_lt, Int.not_le, beq_iff_eq, beq_eq_false_iff_ne, bne_iff_ne, ne_eq, Bool.not_not, Decidable.not_not] at h36
          have hp : plD rs x = some k := (plD_iff hgood.2.2.1).2 (by rw [← hv0, hX, h36])
          refine J.condT rfl rfl ?_
          refine J.seq rfl ?_
          refine J.region rfl ?_
          refine JO.pur rfl rfl rfl (Pur.move rfl) ?_
          refine JO.pur rfl rfl rfl (Pur.assign rfl) ?_
          refine JO.pur rfl rfl rfl (Pur.assign rfl) ?_
          refine JO.nil ?_
          refine J.ret rfl rfl ?_
          refine ⟨_, _, ⟨rfl, rfl⟩, ?_, SubC.out⟩
          unfold plV; rw [if_neg (not_not_intro hgood), if_neg (not_not_intro hle), hp]; rfl
        · try simp only [decide_eq_true_eq, decide_eq_false_iff_not, Bool.not_eq_true', Bool.not_eq_false', Bool.and_eq_true, Bool.or_eq_true, Bool.and_eq_false_iff, Bool.or_eq_false_iff, Option.isNone_some, Option.isSome_some, Option.isNone_none, Option.isSome_none, Int.not_lt, Int.not_le, beq_iff_eq, beq_eq_false_iff_ne, bne_iff_ne, ne_eq, Bool.not_not, Decidable.not_not] at h36
          have hno2 : ∀ j, j < k + 1 → (idx rs)[j]? ≠ some x := fun j hj => by
            rcases Nat.lt_or_ge j k with h | h
            · exact hno j h
            · obtain rfl : j = k := by omega
              rw [← hv0, hX]; intro e; exact h36 (Option.some.inj e)
          refine J.condF rfl rfl ?_
          refine J.skip rfl ?_
          refine J.inBlock ?_
          refine J.region rfl ?_
          refine JO.pur rfl rfl rfl (Pur.move rfl) ?_
          refine JO.pur rfl rfl rfl (Pur.add rfl rfl (wr64 (by omega))) ?_
          refine JO.pur rfl rfl rfl (Pur.assign rfl) ?_
          refine JO.nil ?_
          exact J.weaken (.cons rfl (congrArg (Value.int .i64) (by first | rfl | (dsimp only; omega))) (.cons rfl rfl (.cons rfl rfl .nil))) (by first | exact fun _ h => h | exact SubC.out | (dsimp only; exact SubC.out)) (ih0 (k + 1) ⟨by omega, hno2⟩ (by omega))
      · try simp only [decide_eq_true_eq, decide_eq_false_iff_not, Bool.not_eq_true', Bool.not_eq_false', Bool.and_eq_true, Bool.or_eq_true, Bool.and_eq_false_iff, Bool.or_eq_false_iff, Option.isNone_some, Option.isSome_some, Option.isNone_none, Option.isSome_none, Int.not_lt, Int.not_le, beq_iff_eq, beq_eq_false_iff_ne, bne_iff_ne, ne_eq, Bool.not_not, Decidable.not_not] at h28
        have hp : plD rs x = none := by
          cases e : plD rs x with
          | none => rfl
          | some i => exact absurd ((plD_iff hgood.2.2.1).1 e) (hno i (by have := plD_lt hgood.2.2.1 e; omega))
        refine J.condF rfl rfl ?_
        refine J.exit rfl rfl ?_
        refine J.seq rfl ?_
        refine J.region rfl ?_
        refine JO.pur rfl rfl rfl (Pur.assign rfl) ?_
        refine JO.pur rfl rfl rfl (Pur.assign rfl) ?_
        refine JO.nil ?_
        refine J.ret rfl rfl ?_
        refine ⟨_, _, ⟨rfl, rfl⟩, ?_, SubC.out⟩
        unfold plV; rw [if_neg (not_not_intro hgood), if_neg (not_not_intro hle), hp]; rfl

end Go.Proofs.Ytnhippfllgnngaa

/- The text LPlain. -/
/-!
  Layouts, plain: the indexes of a domain in the order of a layout, and where one stands. No program in sight.
-/
set_option linter.unusedVariables false
set_option linter.unusedSimpArgs false
namespace Dm
def rowS : ByteArray := ⟨#[114, 111, 119, 115]⟩
def colS : ByteArray := ⟨#[99, 111, 108, 117, 109, 110, 115]⟩
def okL (s : ByteArray) : Prop := s = rowS ∨ s = colS
instance (s : ByteArray) : Decidable (okL s) := inferInstanceAs (Decidable (_ ∨ _))
def isC (s : ByteArray) : Bool := decide (s = colS)
/-- An index, turned as the layout turns it. -/
def ixL (c : Bool) (x : List Int) : List Int := if c = true then x.reverse else x
/-- A domain, turned. -/
def tuL (c : Bool) (rs : List Rg) : List Rg := if c = true then rs.reverse else rs
def ordL (c : Bool) (rs : List Rg) : List (List Int) := (idx (tuL c rs)).map (ixL c)
def offL (c : Bool) (rs : List Rg) (x : List Int) : Option Nat := plD (tuL c rs) (ixL c x)
/-- What a search through the list finds. -/
def findL (l : List (List Int)) (x : List Int) : Int := match l.findIdx? (fun y => decide (y = x)) with | some i => (i : Int) | none => -1
theorem find_of {l : List (List Int)} {x : List Int} {k : Nat} (hk : k < l.length) (h : ∀ j, j < k → l[j]? ≠ some x) (e : l[k]? = some x) : l.findIdx? (fun y => decide (y = x)) = some k := by
  rw [List.findIdx?_eq_some_iff_getElem]
  rw [List.getElem?_eq_getElem hk] at e
  refine ⟨hk, decide_eq_true (Option.some.inj e), fun j hj => ?_⟩
  have := h j hj
  rw [List.getElem?_eq_getElem (by omega)] at this
  simpa using this
theorem find_no {l : List (List Int)} {x : List Int} (h : ∀ j, j < l.length → l[j]? ≠ some x) : l.findIdx? (fun y => decide (y = x)) = none := by
  rw [List.findIdx?_eq_none_iff]
  intro y hy
  obtain ⟨j, hj, ej⟩ := List.getElem_of_mem hy
  refine decide_eq_false fun e => h j hj ?_
  rw [List.getElem?_eq_getElem hj, ej, e]
/-- The place, 0 where there is none. -/
def offZ (c : Bool) (rs : List Rg) (x : List Int) : Nat := (offL c rs x).getD 0
def offsL (c : Bool) (d part : List Rg) : List Int := (ordL c part).map fun x => ((offZ c d x : Nat) : Int)
/-- Runs. -/
def runStep (out : List (Int × Int)) (n : Int) : List (Int × Int) := match out.getLast? with
  | some p => if p.1 + p.2 = n then out.set (out.length - 1) (p.1, p.2 + 1) else out ++ [(n, 1)]
  | none => out ++ [(n, 1)]
def runsOf (l : List Int) : List (Int × Int) := l.foldl runStep []
end Dm

/- The text LPlain2. -/
/-!
  What is within what, plain.
-/
set_option linter.unusedVariables false
set_option linter.unusedSimpArgs false
namespace Dm
/-- All members of r are in s. -/
def wiR (r s : Rg) : Prop := ∀ i : Nat, i < cnt r → (plR s (atR r (i : Int))).isSome = true
theorem plK_some {d : List Rg} {x : List Int} : ∀ {k : Nat}, (plK d x k).isSome = true ↔ ∀ j, j < k → (plR (d.getD j default) (x.getD j default)).isSome = true
  | 0 => by simp [plK]
  | k + 1 => by
    have ih := plK_some (d := d) (x := x) (k := k)
    unfold plK
    constructor
    · intro h j hj
      cases e1 : plK d x k with
      | none => rw [e1] at h; simp at h
      | some a =>
        cases e2 : plR (d.getD k default) (x.getD k default) with
        | none => rw [e1, e2] at h; simp at h
        | some i =>
          rcases Nat.lt_or_ge j k with hjk | hjk
          · exact (ih.1 (by rw [e1]; rfl)) j hjk
          · rw [show j = k by omega, e2]; rfl
    · intro h
      have h1 := ih.2 fun j hj => h j (by omega)
      have h2 := h k (by omega)
      cases e1 : plK d x k with
      | none => rw [e1] at h1; cases h1
      | some a =>
        cases e2 : plR (d.getD k default) (x.getD k default) with
        | none => rw [e2] at h2; cases h2
        | some i => rfl
/-- All indexes of a are of b. -/
def wiD (a b : List Rg) : Prop := ∀ x ∈ idx a, x ∈ idx b
end Dm
