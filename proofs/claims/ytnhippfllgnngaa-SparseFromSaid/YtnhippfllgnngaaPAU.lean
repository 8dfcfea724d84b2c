/-
  A part of the proof of the claim that this folder bears.
-/
import Derived.Test.YtnhippfllgnngaaPAT
import Derived.Test.YtnhippfllgnngaaPAS
/- The text SK5. -/
set_option linter.unusedVariables false
set_option linter.unusedSimpArgs false
set_option maxRecDepth 10000
namespace Go.Proofs.Ytnhippfllgnngaa
open Go Go.KK Dm

theorem rowsV_len {rs : List Rg} {xss : List (List Int)} : (rowsV rs xss).1.length ≤ 1000000 ∧ (rowsV rs xss).2.1.length ≤ 1000000 := by
  unfold rowsV
  by_cases h : okS rs xss
  · rw [if_neg (not_not_intro h)]
    by_cases h2 : rs.length = 2
    · rw [if_neg (not_not_intro h2)]
      obtain ⟨-, hc0, hb⟩ := one_ok h.1 (k := 0) (by omega)
      have := h.2.1
      dsimp only
      rw [preL_len, cntL_len, hc0]
      refine ⟨?_, by simp [colL]; omega⟩
      show cnt _ + 1 ≤ _; omega
    · rw [if_pos h2]; simp
  · rw [if_pos h]; simp
theorem rs_From {L : List Asn} {a sa ca : Option Addr} {n cap n1 k1 n2 k2 : Nat} {rs : List Rg} {starts cols : List Int} [SlIn rgE L a rs] [SlIn intE L sa starts] [SlIn intE L ca cols] (hn : n = rs.length) (h1 : n1 = starts.length) (h2 : n2 = cols.length) (hcap : cols.length ≤ k2) (hsb : starts.length ≤ 1000000) (hcb : cols.length ≤ 1000000) (hsb5 : starts.length ≤ 5000) :
    CallS Try.prog 30 [.agg #[.slice a n cap], .slice sa n1 k1, .slice ca n2 k2].toArray L (fun w M => ∃ pa pc qa qc hs', w = .tuple #[.agg #[.slice pa (frmS rs starts cols).1.1.length pc, .slice qa (frmS rs starts cols).1.2.length qc], .int .i64 (frmS rs starts cols).2] ∧ M = sl rgE pa pc (frmS rs starts cols).1.1 :: sl hE qa qc hs' :: rows intE hs' (frmS rs starts cols).1.2 :: L) := by
  subst hn
  subst h1
  subst h2
  refine CallS.ent ?_
  refine CallS.enter Try.func30 rfl rfl rfl rfl rfl ?_
  refine J.seq rfl ?_
  refine J.region rfl ?_
  refine JO.eff rfl rfl rfl (Eff.box (cs := [_]) rfl rfl) ?_
  rintro _ _ ⟨b3, rfl, rfl⟩
  refine JO.eff rfl rfl rfl (Eff.alloc (cs := [_, _]) rfl) ?_
  rintro _ _ ⟨b6, rfl, rfl⟩
  refine JO.pur rfl rfl rfl (Pur.assign rfl) ?_
  refine JO.nil ?_
  refine J.seq rfl ?_
  refine J.block rfl ?_
  refine J.seq rfl ?_
  refine J.region rfl ?_
  refine JO.pur rfl rfl rfl (Pur.loadA rfl rfl rfl CellsIn.blk) ?_
  refine JO.effR rfl rfl rfl (Eff.call rfl (r_Valid (rs := rs) rfl)) ?_
  refine JO.pur rfl rfl rfl (Pur.not rfl) ?_
  refine JO.pur rfl rfl rfl (Pur.assign rfl) ?_
  refine JO.nil ?_
  refine J.splitB 21 rfl (fun h21 => ?_) (fun h21 => ?_)
  · try simp only [decide_eq_true_eq, decide_eq_false_iff_not, Bool.not_eq_true', Bool.not_eq_false', Bool.and_eq_true, Bool.or_eq_true, Bool.and_eq_false_iff, Bool.or_eq_false_iff, Option.isNone_some, Option.isSome_some, Option.isNone_none, Option.isSome_none, Int.not_lt, Int.not_le, beq_iff_eq, beq_eq_false_iff_ne, bne_iff_ne, ne_eq, Bool.not_not, Decidable.not_not] at h21
    have hbad : ¬ okD rs := h21
    refine J.condT rfl rfl ?_
    refine J.seq rfl ?_
    refine J.region rfl ?_
    refine JO.pur rfl rfl rfl (Pur.build (cs := [_, _]) rfl rfl) ?_
    refine JO.effN rfl rfl (Eff.storeBA (cs' := [_, _]) rfl rfl (by rfl) (by rfl) (by rfl)) ?_
    rintro _ _ ⟨rfl, rfl⟩
    refine JO.pur rfl rfl rfl (Pur.assign rfl) ?_
    refine JO.nil ?_
    refine J.retC rfl (.cell rfl (ld_agg rfl CellsIn.blk) (.tmp rfl .nil)) ?_
    have hv : frmS rs starts cols = (([], []), 50) := by unfold frmS; rw [if_pos hbad]
    refine ⟨_, _, ⟨none, 0, none, 0, [], rfl, rfl⟩, by rw [hv]; rfl, fun h s => ?_⟩
    rw [hv]; exact sl_nil_new (sl_nil_new (rows_nil (SubC.out h s)))
  · try simp only [decide_eq_true_eq, decide_eq_false_iff_not, Bool.not_eq_true', Bool.not_eq_false', Bool.and_eq_true, Bool.or_eq_true, Bool.and_eq_false_iff, Bool.or_eq_false_iff, Option.isNone_some, Option.isSome_some, Option.isNone_none, Option.isSome_none, Int.not_lt, Int.not_le, beq_iff_eq, beq_eq_false_iff_ne, bne_iff_ne, ne_eq, Bool.not_not, Decidable.not_not] at h21
    have hgd : okD rs := h21
    refine J.condF rfl rfl ?_
    refine J.seq rfl ?_
    refine J.region rfl ?_
    refine JO.pur rfl rfl rfl (Pur.fieldAddr rfl) ?_
    refine JO.pur rfl rfl rfl (Pur.load rfl (CellIn.blk rfl)) ?_
    refine JO.pur rfl rfl rfl (Pur.len rfl) ?_
    refine JO.pur rfl rfl rfl (Pur.neqI rfl rfl) ?_
    refine JO.pur rfl rfl rfl (Pur.assign rfl) ?_
    refine JO.nil ?_
    refine J.splitB 26 rfl (fun h26 => ?_) (fun h26 => ?_)
    · try simp only [decide_eq_true_eq, decide_eq_false_iff_not, Bool.not_eq_true', Bool.not_eq_false', Bool.and_eq_true, Bool.or_eq_true, Bool.and_eq_false_iff, Bool.or_eq_false_iff, Option.isNone_some, Option.isSome_some, Option.isNone_none, Option.isSome_none, Int.not_lt, Int.not_le, beq_iff_eq, beq_eq_false_iff_ne, bne_iff_ne, ne_eq, Bool.not_not, Decidable.not_not] at h26
      have hl2 : rs.length ≠ 2 := by omega
      refine J.condT rfl rfl ?_
      refine J.seq rfl ?_
      refine J.region rfl ?_
      refine JO.pur rfl rfl rfl (Pur.build (cs := [_, _]) rfl rfl) ?_
      refine JO.effN rfl rfl (Eff.storeBA (cs' := [_, _]) rfl rfl (by rfl) (by rfl) (by rfl)) ?_
      rintro _ _ ⟨rfl, rfl⟩
      refine JO.pur rfl rfl rfl (Pur.assign rfl) ?_
      refine JO.nil ?_
      refine J.retC rfl (.cell rfl (ld_agg rfl CellsIn.blk) (.tmp rfl .nil)) ?_
      have hv : frmS rs starts cols = (([], []), 2) := by unfold frmS; rw [if_neg (not_not_intro hgd), if_pos hl2]
      refine ⟨_, _, ⟨none, 0, none, 0, [], rfl, rfl⟩, by rw [hv]; rfl, fun h s => ?_⟩
      rw [hv]; exact sl_nil_new (sl_nil_new (rows_nil (SubC.out h s)))
    · try simp only [decide_eq_true_eq, decide_eq_false_iff_not, Bool.not_eq_true', Bool.not_eq_false', Bool.and_eq_true, Bool.or_eq_true, Bool.and_eq_false_iff, Bool.or_eq_false_iff, Option.isNone_some, Option.isSome_some, Option.isNone_none, Option.isSome_none, Int.not_lt, Int.not_le, beq_iff_eq, beq_eq_false_iff_ne, bne_iff_ne, ne_eq, Bool.not_not, Decidable.not_not] at h26
      have hl2 : rs.length = 2 := by omega
      have hcd : cdV rs = canD rs := if_pos hgd
      have hcl := canD_len rs
      obtain ⟨-, hc1, hb1⟩ := one_ok hgd (k := 1) (by omega)
      obtain ⟨W, hW⟩ : ∃ W, W = cnt ((canD rs).getD 1 default) := ⟨_, rfl⟩
      rw [← hW] at hc1 hb1
      have hr1 : (canD rs)[1]? = some ((canD rs).getD 1 default) := getD_at' _ (by omega)
      have ho1 : okR ((canD rs).getD 1 default) := (canD_okD hgd).2.2.1 _ (getD_mem (by omega))
      have hct : ctV rs = ((cntD rs : Nat) : Int) := by unfold ctV; rw [if_pos hgd]
      have hn4 := hgd.2.2.2
      refine J.condF rfl rfl ?_
      refine J.skip rfl ?_
      refine J.inBlock ?_
      refine J.seq rfl ?_
      refine J.region rfl ?_
      refine JO.pur rfl rfl rfl (Pur.loadA rfl rfl rfl CellsIn.blk) ?_
      refine JO.eff rfl rfl rfl (Eff.call rfl (r_Canon (rs := rs) rfl)) ?_
      rintro _ _ ⟨a34, c34, rfl, rfl⟩
      rw [hcd]
      refine JO.pur rfl rfl rfl (Pur.move rfl) ?_
      refine JO.pur rfl rfl rfl (Pur.extract rfl rfl) ?_
      refine JO.pur rfl rfl rfl (Pur.extract rfl rfl) ?_
      refine JO.eff rfl rfl rfl (Eff.alloc (cs := [_]) rfl) ?_
      rintro _ _ ⟨b8, rfl, rfl⟩
      refine JO.effN rfl rfl (Eff.storeBA (cs' := [_]) rfl rfl (by rfl) (by rfl) (by rfl)) ?_
      rintro _ _ ⟨rfl, rfl⟩
      refine JO.pur rfl rfl rfl (Pur.assign rfl) ?_
      refine JO.nil ?_
      refine J.seq rfl ?_
      refine J.region rfl ?_
      refine JO.pur rfl rfl rfl (Pur.fieldAddr rfl) ?_
      refine JO.pur rfl rfl rfl (Pur.load rfl (CellIn.blk rfl)) ?_
      refine JO.pur rfl rfl rfl (Pur.idx rfl rfl rfl (by first | rfl | (simp; done) | omega) (show (1 : Int) = ((1 : Nat) : Int) from rfl) (by omega)) ?_
      refine JO.pur rfl rfl rfl (Pur.loadA rfl rfl rfl (CellsIn.el rfl hr1)) ?_
      refine JO.setv (u' := rgV ((canD rs).getD 1 default)) 41 rfl rfl ?_
      refine JO.effR rfl rfl rfl (Eff.call rfl (r3_Count (r := ((canD rs).getD 1 default)))) ?_
      refine JO.pur rfl rfl rfl (Pur.move rfl) ?_
      refine JO.pur rfl rfl rfl (Pur.extract rfl rfl) ?_
      refine JO.setv (u' := .int .i64 (W : Int)) 43 rfl (congrArg (Value.int .i64) (by rw [if_pos ho1, hW]; exact (cnt_eq ho1).symm)) ?_
      refine JO.pur rfl rfl rfl (Pur.extract rfl rfl) ?_
      refine JO.pur rfl rfl rfl (Pur.assign rfl) ?_
      refine JO.pur rfl rfl rfl (Pur.assign rfl) ?_
      refine JO.nil ?_
      refine J.seq rfl ?_
      refine J.region rfl ?_
      refine JO.pur rfl rfl rfl (Pur.assign rfl) ?_
      refine JO.nil ?_
      refine J.seq rfl ?_
      refine J.seq rfl ?_
      refine J.region rfl ?_
      refine JO.pur rfl rfl rfl (Pur.assign rfl) ?_
      refine JO.nil ?_
      refine J.block rfl ?_
      refine J.loopF (ι := Nat × Option Addr × Nat) (fun q => (q.1 = 0 ∨ (q.1 + 1 ≤ starts.length ∧ cols.length ≤ 400)) ∧ q.1 ≤ 5000) (fun q => [(12, .slice q.2.1 (atF W (cntD rs) starts cols q.1).length q.2.2), (13, .int .i64 (q.1 : Int))]) [(1, _), (2, _), (3, _), (6, _), (10, _)] (fun q => sl intE q.2.1 q.2.2 (atF W (cntD rs) starts cols q.1) :: blk b8 (.cells #[.slice a34 (canD rs).length c34] 24) :: sl rgE a34 c34 (canD rs) :: blk b6 (.cells #[.slice none 0 0, .slice none 0 0] 27) :: blk b3 (.cells #[.slice a rs.length cap] 24) :: L) (fun q => starts.length - q.1) (0, none, 0) rfl (.cons rfl rfl (.cons rfl rfl (.cons rfl rfl (.cons rfl rfl (.cons rfl rfl .nil))))) (.cons rfl rfl (.cons rfl rfl .nil)) (fun h s => by have s2 := sl_nil_new (E := intE) s; exact SubC.out (L := sl intE none 0 [] :: _) (M := sl intE none 0 [] :: _) h s2) ⟨.inl rfl, Nat.zero_le _⟩ ?_
      rintro ⟨k, a0, c0⟩ ⟨hk, hk5⟩ ihk
      try dsimp only
      dsimp only at hk hk5
      refine J.seq rfl ?_
      refine J.seq rfl ?_
      refine J.region rfl ?_
      refine JO.pur rfl rfl rfl (Pur.move rfl) ?_
      refine JO.pur rfl rfl rfl (Pur.add rfl rfl (wr64 (by omega))) ?_
      refine JO.pur rfl rfl rfl (Pur.move rfl) ?_
      refine JO.pur rfl rfl rfl (Pur.len rfl) ?_
      refine JO.pur rfl rfl rfl (Pur.lss rfl rfl) ?_
      refine JO.pur rfl rfl rfl (Pur.move rfl) ?_
      refine JO.splitB 50 rfl (fun h50 => ?_) (fun h50 => ?_)
      · try simp only [decide_eq_true_eq, decide_eq_false_iff_not, Bool.not_eq_true', Bool.not_eq_false', Bool.and_eq_true, Bool.or_eq_true, Bool.and_eq_false_iff, Bool.or_eq_false_iff, Option.isNone_some, Option.isSome_some, Option.isNone_none, Option.isSome_none, Int.not_lt, Int.not_le, beq_iff_eq, beq_eq_false_iff_ne, bne_iff_ne, ne_eq, Bool.not_not, Decidable.not_not] at h50
        have hkl : k + 1 < starts.length := by omega
        refine JO.pur rfl rfl rfl (Pur.move rfl) ?_
        refine JO.pur rfl rfl rfl (Pur.len rfl) ?_
        refine JO.pur rfl rfl rfl (Pur.leq rfl rfl) ?_
        refine JO.pur rfl rfl rfl (Pur.pickT rfl rfl) ?_
        refine JO.nil ?_
        refine J.splitB 54 rfl (fun h54 => ?_) (fun h54 => ?_)
        · try simp only [decide_eq_true_eq, decide_eq_false_iff_not, Bool.not_eq_true', Bool.not_eq_false', Bool.and_eq_true, Bool.or_eq_true, Bool.and_eq_false_iff, Bool.or_eq_false_iff, Option.isNone_some, Option.isSome_some, Option.isNone_none, Option.isSome_none, Int.not_lt, Int.not_le, beq_iff_eq, beq_eq_false_iff_ne, bne_iff_ne, ne_eq, Bool.not_not, Decidable.not_not] at h54
          have hc400 : cols.length ≤ 400 := by omega
          have hal := atF_len W (cntD rs) starts cols hc400 k
          have hsA : max (starts.getD k 0) 0 = ((segA starts k : Nat) : Int) := by unfold segA; omega
          refine J.condT rfl rfl ?_
          refine J.skip rfl ?_
          refine J.seq rfl ?_
          refine J.block rfl ?_
          refine J.seq rfl ?_
          refine J.region rfl ?_
          refine JO.pur rfl rfl rfl (Pur.move rfl) ?_
          refine JO.pur rfl rfl rfl (Pur.move rfl) ?_
          refine JO.pur rfl rfl rfl (Pur.idx rfl rfl rfl (by first | rfl | (simp; done) | omega) rfl (by omega)) ?_
          refine JO.pur rfl rfl rfl (Pur.load rfl (CellIn.el0 rfl (getD_at' 0 (by omega)) rfl)) ?_
          refine JO.pur rfl rfl rfl (Pur.max2 rfl rfl) ?_
          refine JO.setv (u' := .int .i64 ((segA starts k : Nat) : Int)) 61 rfl (congrArg (Value.int .i64) hsA) ?_
          refine JO.pur rfl rfl rfl (Pur.assign rfl) ?_
          refine JO.nil ?_
          refine J.block rfl ?_
          refine J.loopF (ι := Nat × Option Addr × Nat) (fun q => q.1 ≤ stpJ starts cols k) (fun q => [(12, .slice q.2.1 ((atF W (cntD rs) starts cols k) ++ (genJ W (cntD rs) cols k (segA starts k) q.1)).length q.2.2), (14, .int .i64 ((segA starts k + q.1 : Nat) : Int))]) [(1, _), (2, _), (3, _), (6, _), (10, _), (13, _)] (fun q => sl intE q.2.1 q.2.2 ((atF W (cntD rs) starts cols k) ++ (genJ W (cntD rs) cols k (segA starts k) q.1)) :: blk b8 (.cells #[.slice a34 (canD rs).length c34] 24) :: sl rgE a34 c34 (canD rs) :: blk b6 (.cells #[.slice none 0 0, .slice none 0 0] 27) :: blk b3 (.cells #[.slice a rs.length cap] 24) :: L) (fun q => stpJ starts cols k - q.1) (0, a0, c0) rfl (.cons rfl rfl (.cons rfl rfl (.cons rfl rfl (.cons rfl rfl (.cons rfl rfl (.cons rfl rfl .nil)))))) (.cons rfl (by simp [genJ]) (.cons rfl rfl .nil)) (fun h s => by dsimp only; rw [show genJ W (cntD rs) cols k (segA starts k) 0 = [] from rfl, List.append_nil]; exact SubC.out h s) (Nat.zero_le _) ?_
          rintro ⟨j, a1, c1⟩ hj ihj
          try dsimp only
          dsimp only at hj
          refine J.seq rfl ?_
          refine J.seq rfl ?_
          refine J.region rfl ?_
          refine JO.pur rfl rfl rfl (Pur.move rfl) ?_
          refine JO.pur rfl rfl rfl (Pur.move rfl) ?_
          refine JO.pur rfl rfl rfl (Pur.move rfl) ?_
          refine JO.pur rfl rfl rfl (Pur.add rfl rfl (wr64 (by omega))) ?_
          refine JO.pur rfl rfl rfl (Pur.idx rfl rfl rfl (by first | rfl | (simp; done) | omega) (show (k : Int) + 1 = ((k + 1 : Nat) : Int) from rfl) (by omega)) ?_
          refine JO.pur rfl rfl rfl (Pur.load rfl (CellIn.el0 rfl (getD_at' 0 (by omega)) rfl)) ?_
          refine JO.pur rfl rfl rfl (Pur.lss rfl rfl) ?_
          refine JO.pur rfl rfl rfl (Pur.move rfl) ?_
          refine JO.splitB 69 rfl (fun h69 => ?_) (fun h69 => ?_)
          · try simp only [decide_eq_true_eq, decide_eq_false_iff_not, Bool.not_eq_true', Bool.not_eq_false', Bool.and_eq_true, Bool.or_eq_true, Bool.and_eq_false_iff, Bool.or_eq_false_iff, Option.isNone_some, Option.isSome_some, Option.isNone_none, Option.isSome_none, Int.not_lt, Int.not_le, beq_iff_eq, beq_eq_false_iff_ne, bne_iff_ne, ne_eq, Bool.not_not, Decidable.not_not] at h69
            refine JO.pur rfl rfl rfl (Pur.move rfl) ?_
            refine JO.pur rfl rfl rfl (Pur.move rfl) ?_
            refine JO.pur rfl rfl rfl (Pur.len rfl) ?_
            refine JO.pur rfl rfl rfl (Pur.lss rfl rfl) ?_
            refine JO.pur rfl rfl rfl (Pur.pickT rfl rfl) ?_
            refine JO.nil ?_
            refine J.splitB 74 rfl (fun h74 => ?_) (fun h74 => ?_)
            · try simp only [decide_eq_true_eq, decide_eq_false_iff_not, Bool.not_eq_true', Bool.not_eq_false', Bool.and_eq_true, Bool.or_eq_true, Bool.and_eq_false_iff, Bool.or_eq_false_iff, Option.isNone_some, Option.isSome_some, Option.isNone_none, Option.isSome_none, Int.not_lt, Int.not_le, beq_iff_eq, beq_eq_false_iff_ne, bne_iff_ne, ne_eq, Bool.not_not, Decidable.not_not] at h74
              have hpl : segA starts k + j < cols.length := by omega
              have hjl : j < stpJ starts cols k := by unfold stpJ; omega
              have hst0 := genJ_succ W (cntD rs) cols k (segA starts k) j
              obtain ⟨c, hc⟩ : ∃ c, c = cols.getD (segA starts k + j) 0 := ⟨_, rfl⟩
              have hcx : cols[segA starts k + j]? = some c := by rw [hc]; exact getD_at' 0 hpl
              rw [← hc] at hst0
              have hgl := genJ_len W (cntD rs) cols k (segA starts k) j
              have hkw : k * W ≤ 5000 * 4096 := Nat.mul_le_mul hk5 hb1
              have hkwI : (k : Int) * (W : Int) = ((k * W : Nat) : Int) := (Int.natCast_mul k W).symm
              refine J.condT rfl rfl ?_
              refine J.skip rfl ?_
              refine J.seq rfl ?_
              refine J.block rfl ?_
              refine J.seq rfl ?_
              refine J.region rfl ?_
              refine JO.pur rfl rfl rfl (Pur.loadA rfl rfl rfl CellsIn.blk) ?_
              refine JO.effR rfl rfl rfl (Eff.call rfl (r_Count (rs := rs) rfl)) ?_
              refine JO.pur rfl rfl rfl (Pur.move rfl) ?_
              refine JO.pur rfl rfl rfl (Pur.extract rfl rfl) ?_
              refine JO.setv (u' := .int .i64 ((cntD rs : Nat) : Int)) 80 rfl (congrArg (Value.int .i64) hct) ?_
              refine JO.pur rfl rfl rfl (Pur.extract rfl rfl) ?_
              refine JO.pur rfl rfl rfl (Pur.assign rfl) ?_
              refine JO.pur rfl rfl rfl (Pur.assign rfl) ?_
              refine JO.nil ?_
              refine J.seq rfl ?_
              refine J.region rfl ?_
              refine JO.pur rfl rfl rfl (Pur.move rfl) ?_
              refine JO.pur rfl rfl rfl (Pur.move rfl) ?_
              refine JO.pur rfl rfl rfl (Pur.idx rfl rfl rfl (by first | rfl | (simp; done) | omega) rfl (by omega)) ?_
              refine JO.pur rfl rfl rfl (Pur.load rfl (CellIn.el0 rfl hcx rfl)) ?_
              refine JO.pur rfl rfl rfl (Pur.geq rfl rfl) ?_
              refine JO.pur rfl rfl rfl (Pur.move rfl) ?_
              refine JO.splitB 87 rfl (fun h87 => ?_) (fun h87 => ?_)
              · try simp only [decide_eq_true_eq, decide_eq_false_iff_not, Bool.not_eq_true', Bool.not_eq_false', Bool.and_eq_true, Bool.or_eq_true, Bool.and_eq_false_iff, Bool.or_eq_false_iff, Option.isNone_some, Option.isSome_some, Option.isNone_none, Option.isSome_none, Int.not_lt, Int.not_le, beq_iff_eq, beq_eq_false_iff_ne, bne_iff_ne, ne_eq, Bool.not_not, Decidable.not_not] at h87
                refine JO.pur rfl rfl rfl (Pur.move rfl) ?_
                refine JO.pur rfl rfl rfl (Pur.move rfl) ?_
                refine JO.pur rfl rfl rfl (Pur.idx rfl rfl rfl (by first | rfl | (simp; done) | omega) rfl (by omega)) ?_
                refine JO.pur rfl rfl rfl (Pur.load rfl (CellIn.el0 rfl hcx rfl)) ?_
                refine JO.pur rfl rfl rfl (Pur.move rfl) ?_
                refine JO.pur rfl rfl rfl (Pur.lss rfl rfl) ?_
                refine JO.pur rfl rfl rfl (Pur.pickT rfl rfl) ?_
                refine JO.pur rfl rfl rfl (Pur.move rfl) ?_
                refine JO.splitB 95 rfl (fun h95 => ?_) (fun h95 => ?_)
                · try simp only [decide_eq_true_eq, decide_eq_false_iff_not, Bool.not_eq_true', Bool.not_eq_false', Bool.and_eq_true, Bool.or_eq_true, Bool.and_eq_false_iff, Bool.or_eq_false_iff, Option.isNone_some, Option.isSome_some, Option.isNone_none, Option.isSome_none, Int.not_lt, Int.not_le, beq_iff_eq, beq_eq_false_iff_ne, bne_iff_ne, ne_eq, Bool.not_not, Decidable.not_not] at h95
                  refine JO.pur rfl rfl rfl (Pur.move rfl) ?_
                  refine JO.pur rfl rfl rfl (Pur.move rfl) ?_
                  refine JO.pur rfl rfl rfl (Pur.lss rfl rfl) ?_
                  refine JO.pur rfl rfl rfl (Pur.pickT rfl rfl) ?_
                  refine JO.pur rfl rfl rfl (Pur.move rfl) ?_
                  refine JO.splitB 100 rfl (fun h100 => ?_) (fun h100 => ?_)
                  · try simp only [decide_eq_true_eq, decide_eq_false_iff_not, Bool.not_eq_true', Bool.not_eq_false', Bool.and_eq_true, Bool.or_eq_true, Bool.and_eq_false_iff, Bool.or_eq_false_iff, Option.isNone_some, Option.isSome_some, Option.isNone_none, Option.isSome_none, Int.not_lt, Int.not_le, beq_iff_eq, beq_eq_false_iff_ne, bne_iff_ne, ne_eq, Bool.not_not, Decidable.not_not] at h100
                    refine JO.pur rfl rfl rfl (Pur.move rfl) ?_
                    refine JO.pur rfl rfl rfl (Pur.move rfl) ?_
                    refine JO.pur rfl rfl rfl (Pur.mul rfl rfl (by rw [hkwI]; exact wr64 (by omega))) ?_
                    refine JO.pur rfl rfl rfl (Pur.move rfl) ?_
                    refine JO.pur rfl rfl rfl (Pur.move rfl) ?_
                    refine JO.pur rfl rfl rfl (Pur.idx rfl rfl rfl (by first | rfl | (simp; done) | omega) rfl (by omega)) ?_
                    refine JO.pur rfl rfl rfl (Pur.load rfl (CellIn.el0 rfl hcx rfl)) ?_
                    refine JO.pur rfl rfl rfl (Pur.add rfl rfl (by rw [hkwI]; exact wr64 (by omega))) ?_
                    refine JO.pur rfl rfl rfl (Pur.move rfl) ?_
                    refine JO.pur rfl rfl rfl (Pur.lss rfl rfl) ?_
                    refine JO.pur rfl rfl rfl (Pur.pickT rfl rfl) ?_
                    refine JO.nil ?_
                    refine J.splitB 111 rfl (fun h111 => ?_) (fun h111 => ?_)
                    · try simp only [decide_eq_true_eq, decide_eq_false_iff_not, Bool.not_eq_true', Bool.not_eq_false', Bool.and_eq_true, Bool.or_eq_true, Bool.and_eq_false_iff, Bool.or_eq_false_iff, Option.isNone_some, Option.isSome_some, Option.isNone_none, Option.isSome_none, Int.not_lt, Int.not_le, beq_iff_eq, beq_eq_false_iff_ne, bne_iff_ne, ne_eq, Bool.not_not, Decidable.not_not] at h111
                      have hst : genJ W (cntD rs) cols k (segA starts k) (j + 1) = genJ W (cntD rs) cols k (segA starts k) j ++ [(k : Int) * (W : Int) + c] := by rw [hst0]; unfold pickC; rw [if_pos ⟨by omega, by omega, by omega, h111⟩]
                      refine J.condT rfl rfl ?_
                      refine J.region rfl ?_
                      refine JO.pur rfl rfl rfl (Pur.move rfl) ?_
                      refine JO.pur rfl rfl rfl (Pur.move rfl) ?_
                      refine JO.pur rfl rfl rfl (Pur.move rfl) ?_
                      refine JO.pur rfl rfl rfl (Pur.mul rfl rfl (by rw [hkwI]; exact wr64 (by omega))) ?_
                      refine JO.pur rfl rfl rfl (Pur.move rfl) ?_
                      refine JO.pur rfl rfl rfl (Pur.move rfl) ?_
                      refine JO.pur rfl rfl rfl (Pur.idx rfl rfl rfl (by first | rfl | (simp; done) | omega) rfl (by omega)) ?_
                      refine JO.pur rfl rfl rfl (Pur.load rfl (CellIn.el0 rfl hcx rfl)) ?_
                      refine JO.pur rfl rfl rfl (Pur.add rfl rfl (by rw [hkwI]; exact wr64 (by omega))) ?_
                      refine JO.eff rfl rfl rfl (Eff.buildSlice intE [(k : Int) * (W : Int) + c] rfl rfl rfl rfl rfl rfl rfl) ?_
                      rintro _ _ ⟨b121, rfl, -, rfl⟩
                      refine JO.eff rfl rfl rfl (Eff.append rfl rfl rfl rfl (by first | rfl | omega | (simp; done) | (simp; omega)) (by first | rfl | omega | (simp; done) | (simp; omega)) (by decide) (by simp; omega) (by simp; omega) (fun h => by cases h)) ?_
                      rintro _ _ ⟨a122, c122, rfl, rfl⟩
                      refine JO.pur rfl rfl rfl (Pur.assign rfl) ?_
                      refine JO.nil ?_
                      refine J.inBlock ?_
                      refine J.region rfl ?_
                      refine JO.pur rfl rfl rfl (Pur.move rfl) ?_
                      refine JO.pur rfl rfl rfl (Pur.add rfl rfl (wr64 (by omega))) ?_
                      refine JO.pur rfl rfl rfl (Pur.assign rfl) ?_
                      refine JO.nil ?_
                      first
                        | exact J.weaken (.cons rfl (by dsimp only; rw [hst]; simp; omega) (.cons rfl (congrArg (Value.int .i64) (by first | rfl | (dsimp only; omega))) (.cons rfl rfl (.cons rfl rfl (.cons rfl rfl (.cons rfl rfl (.cons rfl rfl (.cons rfl rfl .nil)))))))) (fun h s => by dsimp only; rw [hst, ← List.append_assoc]; exact SubC.out h s) (ihj (j + 1, a122, c122) (by dsimp only; omega) (by dsimp only; omega))
                        | exact J.weaken (.cons rfl (by dsimp only; rw [hst]) (.cons rfl (congrArg (Value.int .i64) (by first | rfl | (dsimp only; omega))) (.cons rfl rfl (.cons rfl rfl (.cons rfl rfl (.cons rfl rfl (.cons rfl rfl (.cons rfl rfl .nil)))))))) (fun h s => by dsimp only; rw [hst]; exact SubC.out h s) (ihj (j + 1, a1, c1) (by dsimp only; omega) (by dsimp only; omega))
                    · try simp only [decide_eq_true_eq, decide_eq_false_iff_not, Bool.not_eq_true', Bool.not_eq_false', Bool.and_eq_true, Bool.or_eq_true, Bool.and_eq_false_iff, Bool.or_eq_false_iff, Option.isNone_some, Option.isSome_some, Option.isNone_none, Option.isSome_none, Int.not_lt, Int.not_le, beq_iff_eq, beq_eq_false_iff_ne, bne_iff_ne, ne_eq, Bool.not_not, Decidable.not_not] at h111
                      have hst : genJ W (cntD rs) cols k (segA starts k) (j + 1) = genJ W (cntD rs) cols k (segA starts k) j := by rw [hst0]; unfold pickC; rw [if_neg (fun g => absurd g.2.2.2 (by omega)), List.append_nil]
                      refine J.condF rfl rfl ?_
                      refine J.skip rfl ?_
                      refine J.inBlock ?_
                      refine J.region rfl ?_
                      refine JO.pur rfl rfl rfl (Pur.move rfl) ?_
                      refine JO.pur rfl rfl rfl (Pur.add rfl rfl (wr64 (by omega))) ?_
                      refine JO.pur rfl rfl rfl (Pur.assign rfl) ?_
                      refine JO.nil ?_
                      first
                        | exact J.weaken (.cons rfl (by dsimp only; rw [hst]; simp; omega) (.cons rfl (congrArg (Value.int .i64) (by first | rfl | (dsimp only; omega))) (.cons rfl rfl (.cons rfl rfl (.cons rfl rfl (.cons rfl rfl (.cons rfl rfl (.cons rfl rfl .nil)))))))) (fun h s => by dsimp only; rw [hst, ← List.append_assoc]; exact SubC.out h s) (ihj (j + 1, a122, c122) (by dsimp only; omega) (by dsimp only; omega))
                        | exact J.weaken (.cons rfl (by dsimp only; rw [hst]) (.cons rfl (congrArg (Value.int .i64) (by first | rfl | (dsimp only; omega))) (.cons rfl rfl (.cons rfl rfl (.cons rfl rfl (.cons rfl rfl (.cons rfl rfl (.cons rfl rfl .nil)))))))) (fun h s => by dsimp only; rw [hst]; exact SubC.out h s) (ihj (j + 1, a1, c1) (by dsimp only; omega) (by dsimp only; omega))
                  · try simp only [decide_eq_true_eq, decide_eq_false_iff_not, Bool.not_eq_true', Bool.not_eq_false', Bool.and_eq_true, Bool.or_eq_true, Bool.and_eq_false_iff, Bool.or_eq_false_iff, Option.isNone_some, Option.isSome_some, Option.isNone_none, Option.isSome_none, Int.not_lt, Int.not_le, beq_iff_eq, beq_eq_false_iff_ne, bne_iff_ne, ne_eq, Bool.not_not, Decidable.not_not] at h100
                    have hst : genJ W (cntD rs) cols k (segA starts k) (j + 1) = genJ W (cntD rs) cols k (segA starts k) j := by rw [hst0]; unfold pickC; rw [if_neg (fun g => absurd g.2.2.1 (by omega)), List.append_nil]
                    refine JO.no rfl rfl rfl ?_
                    refine JO.no rfl rfl rfl ?_
                    refine JO.no rfl rfl rfl ?_
                    refine JO.no rfl rfl rfl ?_
                    refine JO.no rfl rfl rfl ?_
                    refine JO.no rfl rfl rfl ?_
                    refine JO.no rfl rfl rfl ?_
                    refine JO.no rfl rfl rfl ?_
                    refine JO.no rfl rfl rfl ?_
                    refine JO.no rfl rfl rfl ?_
                    refine JO.pur rfl rfl rfl (Pur.pickF rfl rfl) ?_
                    refine JO.nil ?_
                    refine J.condF rfl rfl ?_
                    refine J.skip rfl ?_
                    refine J.inBlock ?_
                    refine J.region rfl ?_
                    refine JO.pur rfl rfl rfl (Pur.move rfl) ?_
                    refine JO.pur rfl rfl rfl (Pur.add rfl rfl (wr64 (by omega))) ?_
                    refine JO.pur rfl rfl rfl (Pur.assign rfl) ?_
                    refine JO.nil ?_
                    first
                      | exact J.weaken (.cons rfl (by dsimp only; rw [hst]; simp; omega) (.cons rfl (congrArg (Value.int .i64) (by first | rfl | (dsimp only; omega))) (.cons rfl rfl (.cons rfl rfl (.cons rfl rfl (.cons rfl rfl (.cons rfl rfl (.cons rfl rfl .nil)))))))) (fun h s => by dsimp only; rw [hst, ← List.append_assoc]; exact SubC.out h s) (ihj (j + 1, a122, c122) (by dsimp only; omega) (by dsimp only; omega))
                      | exact J.weaken (.cons rfl (by dsimp only; rw [hst]) (.cons rfl (congrArg (Value.int .i64) (by first | rfl | (dsimp only; omega))) (.cons rfl rfl (.cons rfl rfl (.cons rfl rfl (.cons rfl rfl (.cons rfl rfl (.cons rfl rfl .nil)))))))) (fun h s => by dsimp only; rw [hst]; exact SubC.out h s) (ihj (j + 1, a1, c1) (by dsimp only; omega) (by dsimp only; omega))
                · try simp only [decide_eq_true_eq, decide_eq_false_iff_not, Bool.not_eq_true', Bool.not_eq_false', Bool.and_eq_true, Bool.or_eq_true, Bool.and_eq_false_iff, Bool.or_eq_false_iff, Option.isNone_some, Option.isSome_some, Option.isNone_none, Option.isSome_none, Int.not_lt, Int.not_le, beq_iff_eq, beq_eq_false_iff_ne, bne_iff_ne, ne_eq, Bool.not_not, Decidable.not_not] at h95
                  have hst : genJ W (cntD rs) cols k (segA starts k) (j + 1) = genJ W (cntD rs) cols k (segA starts k) j := by rw [hst0]; unfold pickC; rw [if_neg (fun g => absurd g.2.1 (by omega)), List.append_nil]
                  refine JO.no rfl rfl rfl ?_
                  refine JO.no rfl rfl rfl ?_
                  refine JO.no rfl rfl rfl ?_
                  refine JO.pur rfl rfl rfl (Pur.pickF rfl rfl) ?_
                  refine JO.pur rfl rfl rfl (Pur.move rfl) ?_
                  refine JO.no rfl rfl rfl ?_
                  refine JO.no rfl rfl rfl ?_
                  refine JO.no rfl rfl rfl ?_
                  refine JO.no rfl rfl rfl ?_
                  refine JO.no rfl rfl rfl ?_
                  refine JO.no rfl rfl rfl ?_
                  refine JO.no rfl rfl rfl ?_
                  refine JO.no rfl rfl rfl ?_
                  refine JO.no rfl rfl rfl ?_
                  refine JO.no rfl rfl rfl ?_
                  refine JO.pur rfl rfl rfl (Pur.pickF rfl rfl) ?_
                  refine JO.nil ?_
                  refine J.condF rfl rfl ?_
                  refine J.skip rfl ?_
                  refine J.inBlock ?_
                  refine J.region rfl ?_
                  refine JO.pur rfl rfl rfl (Pur.move rfl) ?_
                  refine JO.pur rfl rfl rfl (Pur.add rfl rfl (wr64 (by omega))) ?_
                  refine JO.pur rfl rfl rfl (Pur.assign rfl) ?_
                  refine JO.nil ?_
                  first
                    | exact J.weaken (.cons rfl (by dsimp only; rw [hst]; simp; omega) (.cons rfl (congrArg (Value.int .i64) (by first | rfl | (dsimp only; omega))) (.cons rfl rfl (.cons rfl rfl (.cons rfl rfl (.cons rfl rfl (.cons rfl rfl (.cons rfl rfl .nil)))))))) (fun h s => by dsimp only; rw [hst, ← List.append_assoc]; exact SubC.out h s) (ihj (j + 1, a122, c122) (by dsimp only; omega) (by dsimp only; omega))
                    | exact J.weaken (.cons rfl (by dsimp only; rw [hst]) (.cons rfl (congrArg (Value.int .i64) (by first | rfl | (dsimp only; omega))) (.cons rfl rfl (.cons rfl rfl (.cons rfl rfl (.cons rfl rfl (.cons rfl rfl (.cons rfl rfl .nil)))))))) (fun h s => by dsimp only; rw [hst]; exact SubC.out h s) (ihj (j + 1, a1, c1) (by dsimp only; omega) (by dsimp only; omega))
              · try simp only [decide_eq_true_eq, decide_eq_false_iff_not, Bool.not_eq_true', Bool.not_eq_false', Bool.and_eq_true, Bool.or_eq_true, Bool.and_eq_false_iff, Bool.or_eq_false_iff, Option.isNone_some, Option.isSome_some, Option.isNone_none, Option.isSome_none, Int.not_lt, Int.not_le, beq_iff_eq, beq_eq_false_iff_ne, bne_iff_ne, ne_eq, Bool.not_not, Decidable.not_not] at h87
                have hst : genJ W (cntD rs) cols k (segA starts k) (j + 1) = genJ W (cntD rs) cols k (segA starts k) j := by rw [hst0]; unfold pickC; rw [if_neg (fun g => absurd g.1 (by omega)), List.append_nil]
                refine JO.no rfl rfl rfl ?_
                refine JO.no rfl rfl rfl ?_
                refine JO.no rfl rfl rfl ?_
                refine JO.no rfl rfl rfl ?_
                refine JO.no rfl rfl rfl ?_
                refine JO.no rfl rfl rfl ?_
                refine JO.pur rfl rfl rfl (Pur.pickF rfl rfl) ?_
                refine JO.pur rfl rfl rfl (Pur.move rfl) ?_
                refine JO.no rfl rfl rfl ?_
                refine JO.no rfl rfl rfl ?_
                refine JO.no rfl rfl rfl ?_
                refine JO.pur rfl rfl rfl (Pur.pickF rfl rfl) ?_
                refine JO.pur rfl rfl rfl (Pur.move rfl) ?_
                refine JO.no rfl rfl rfl ?_
                refine JO.no rfl rfl rfl ?_
                refine JO.no rfl rfl rfl ?_
                refine JO.no rfl rfl rfl ?_
                refine JO.no rfl rfl rfl ?_
                refine JO.no rfl rfl rfl ?_
                refine JO.no rfl rfl rfl ?_
                refine JO.no rfl rfl rfl ?_
                refine JO.no rfl rfl rfl ?_
                refine JO.no rfl rfl rfl ?_
                refine JO.pur rfl rfl rfl (Pur.pickF rfl rfl) ?_
                refine JO.nil ?_
                refine J.condF rfl rfl ?_
                refine J.skip rfl ?_
                refine J.inBlock ?_
                refine J.region rfl ?_
                refine JO.pur rfl rfl rfl (Pur.move rfl) ?_
                refine JO.pur rfl rfl rfl (Pur.add rfl rfl (wr64 (by omega))) ?_
                refine JO.pur rfl rfl rfl (Pur.assign rfl) ?_
                refine JO.nil ?_
                first
                  | exact J.weaken (.cons rfl (by dsimp only; rw [hst]; simp; omega) (.cons rfl (congrArg (Value.int .i64) (by first | rfl | (dsimp only; omega))) (.cons rfl rfl (.cons rfl rfl (.cons rfl rfl (.cons rfl rfl (.cons rfl rfl (.cons rfl rfl .nil)))))))) (fun h s => by dsimp only; rw [hst, ← List.append_assoc]; exact SubC.out h s) (ihj (j + 1, a122, c122) (by dsimp only; omega) (by dsimp only; omega))
                  | exact J.weaken (.cons rfl (by dsimp only; rw [hst]) (.cons rfl (congrArg (Value.int .i64) (by first | rfl | (dsimp only; omega))) (.cons rfl rfl (.cons rfl rfl (.cons rfl rfl (.cons rfl rfl (.cons rfl rfl (.cons rfl rfl .nil)))))))) (fun h s => by dsimp only; rw [hst]; exact SubC.out h s) (ihj (j + 1, a1, c1) (by dsimp only; omega) (by dsimp only; omega))
            · try simp only [decide_eq_true_eq, decide_eq_false_iff_not, Bool.not_eq_true', Bool.not_eq_false', Bool.and_eq_true, Bool.or_eq_true, Bool.and_eq_false_iff, Bool.or_eq_false_iff, Option.isNone_some, Option.isSome_some, Option.isNone_none, Option.isSome_none, Int.not_lt, Int.not_le, beq_iff_eq, beq_eq_false_iff_ne, bne_iff_ne, ne_eq, Bool.not_not, Decidable.not_not] at h74
              have hje : j = stpJ starts cols k := by unfold stpJ at hj ⊢; omega
              refine J.condF rfl rfl ?_
              refine J.exit rfl rfl ?_
              refine J.inBlock ?_
              refine J.region rfl ?_
              refine JO.pur rfl rfl rfl (Pur.move rfl) ?_
              refine JO.pur rfl rfl rfl (Pur.add rfl rfl (wr64 (by omega))) ?_
              refine JO.pur rfl rfl rfl (Pur.assign rfl) ?_
              refine JO.nil ?_
              exact J.weaken (.cons rfl (by dsimp only; rw [atF_succ, hje]) (.cons rfl (congrArg (Value.int .i64) (by first | rfl | (dsimp only; omega))) (.cons rfl rfl (.cons rfl rfl (.cons rfl rfl (.cons rfl rfl (.cons rfl rfl .nil))))))) (fun h s => by dsimp only; rw [atF_succ, ← hje]; exact SubC.out h s) (ihk (k + 1, a1, c1) ⟨.inr ⟨by dsimp only; omega, hc400⟩, by dsimp only; omega⟩ (by dsimp only; omega))
          · try simp only [decide_eq_true_eq, decide_eq_false_iff_not, Bool.not_eq_true', Bool.not_eq_false', Bool.and_eq_true, Bool.or_eq_true, Bool.and_eq_false_iff, Bool.or_eq_false_iff, Option.isNone_some, Option.isSome_some, Option.isNone_none, Option.isSome_none, Int.not_lt, Int.not_le, beq_iff_eq, beq_eq_false_iff_ne, bne_iff_ne, ne_eq, Bool.not_not, Decidable.not_not] at h69
            have hje : j = stpJ starts cols k := by unfold stpJ at hj ⊢; omega
            refine JO.no rfl rfl rfl ?_
            refine JO.no rfl rfl rfl ?_
            refine JO.no rfl rfl rfl ?_
            refine JO.no rfl rfl rfl ?_
            refine JO.pur rfl rfl rfl (Pur.pickF rfl rfl) ?_
            refine JO.nil ?_
            refine J.condF rfl rfl ?_
            refine J.exit rfl rfl ?_
            refine J.inBlock ?_
            refine J.region rfl ?_
            refine JO.pur rfl rfl rfl (Pur.move rfl) ?_
            refine JO.pur rfl rfl rfl (Pur.add rfl rfl (wr64 (by omega))) ?_
            refine JO.pur rfl rfl rfl (Pur.assign rfl) ?_
            refine JO.nil ?_
            exact J.weaken (.cons rfl (by dsimp only; rw [atF_succ, hje]) (.cons rfl (congrArg (Value.int .i64) (by first | rfl | (dsimp only; omega))) (.cons rfl rfl (.cons rfl rfl (.cons rfl rfl (.cons rfl rfl (.cons rfl rfl .nil))))))) (fun h s => by dsimp only; rw [atF_succ, ← hje]; exact SubC.out h s) (ihk (k + 1, a1, c1) ⟨.inr ⟨by dsimp only; omega, hc400⟩, by dsimp only; omega⟩ (by dsimp only; omega))
        · try simp only [decide_eq_true_eq, decide_eq_false_iff_not, Bool.not_eq_true', Bool.not_eq_false', Bool.and_eq_true, Bool.or_eq_true, Bool.and_eq_false_iff, Bool.or_eq_false_iff, Option.isNone_some, Option.isSome_some, Option.isNone_none, Option.isSome_none, Int.not_lt, Int.not_le, beq_iff_eq, beq_eq_false_iff_ne, bne_iff_ne, ne_eq, Bool.not_not, Decidable.not_not] at h54
          have hkat : (atF W (cntD rs) starts cols k) = (atR_ rs starts cols) := by
            unfold atR_; rw [← hW]
            by_cases g : cols.length ≤ 400
            · rw [if_pos g, show k = starts.length - 1 by omega]
            · rw [if_neg g, show k = 0 by omega]; rfl
          have hatl : (atR_ rs starts cols).length ≤ 100000000 := by
            rw [← hkat]
            by_cases g : cols.length ≤ 400
            · have := atF_len W (cntD rs) starts cols g k; omega
            · rw [show k = 0 by omega]; simp [atF]
          have hatm : ∀ t ∈ (atR_ rs starts cols), 0 ≤ t ∧ t < (cntD rs : Int) := fun t ht => by rw [← hkat] at ht; exact atF_mem ht
          rw [hkat]
          refine J.condF rfl rfl ?_
          refine J.exit rfl rfl ?_
          refine J.seq rfl ?_
          refine J.region rfl ?_
          refine JO.pur rfl rfl rfl (Pur.loadA rfl rfl rfl CellsIn.blk) ?_
          refine JO.pur rfl rfl rfl (Pur.move rfl) ?_
          refine JO.eff rfl rfl rfl (Eff.call rfl (made_ok (rs := rs) (ts := (atR_ rs starts cols)) rfl rfl hgd hatl hatm)) ?_
          rintro _ _ ⟨pa, pc, qa, qc, hs0, rfl, rfl⟩
          refine JO.eff rfl rfl rfl (Eff.alloc (cs := [_, _]) rfl) ?_
          rintro _ _ ⟨b17, rfl, rfl⟩
          refine JO.effN rfl rfl (Eff.storeBA (cs' := [_, _]) rfl rfl (by rfl) (by rfl) (by rfl)) ?_
          rintro _ _ ⟨rfl, rfl⟩
          refine JO.nil ?_
          refine J.seq rfl ?_
          refine J.fact (fun h s => RowsR.len (E := intE) (hs := hs0) (xss := (madeL rs (atR_ rs starts cols))) s) fun hnn0 => ?_
          have hl0 : (madeL rs (atR_ rs starts cols)).length = hs0.length := (rows_len hnn0).symm
          have hrl := rowsV_len (rs := rs) (xss := (madeL rs (atR_ rs starts cols)))
          refine J.region rfl ?_
          refine JO.pur rfl rfl rfl (Pur.loadA rfl rfl rfl CellsIn.blk) ?_
          refine JO.eff rfl rfl rfl (Eff.call rfl (rs_Rows (rs := rs) (hs := hs0) (xss := (madeL rs (atR_ rs starts cols))) rfl hl0)) ?_
          rintro _ _ ⟨a128, c128, a129, c129, rfl, rfl⟩
          refine JO.pur rfl rfl rfl (Pur.move rfl) ?_
          refine JO.pur rfl rfl rfl (Pur.extract rfl rfl) ?_
          refine JO.pur rfl rfl rfl (Pur.extract rfl rfl) ?_
          refine JO.pur rfl rfl rfl (Pur.extract rfl rfl) ?_
          refine JO.pur rfl rfl rfl (Pur.assign rfl) ?_
          refine JO.pur rfl rfl rfl (Pur.assign rfl) ?_
          refine JO.pur rfl rfl rfl (Pur.assign rfl) ?_
          refine JO.nil ?_
          refine J.seq rfl ?_
          refine J.seq rfl ?_
          refine J.region rfl ?_
          refine JO.pur rfl rfl rfl (Pur.move rfl) ?_
          refine JO.pur rfl rfl rfl (Pur.neqI rfl rfl) ?_
          refine JO.pur rfl rfl rfl (Pur.move rfl) ?_
          refine JO.splitB 134 rfl (fun h134 => ?_) (fun h134 => ?_)
          · try simp only [decide_eq_true_eq, decide_eq_false_iff_not, Bool.not_eq_true', Bool.not_eq_false', Bool.and_eq_true, Bool.or_eq_true, Bool.and_eq_false_iff, Bool.or_eq_false_iff, Option.isNone_some, Option.isSome_some, Option.isNone_none, Option.isSome_none, Int.not_lt, Int.not_le, beq_iff_eq, beq_eq_false_iff_ne, bne_iff_ne, ne_eq, Bool.not_not, Decidable.not_not] at h134
            have hne : (rowsV rs (madeL rs (atR_ rs starts cols))).2.2 ≠ 0 := by simpa using h134
            refine JO.no rfl rfl rfl ?_
            refine JO.no rfl rfl rfl ?_
            refine JO.no rfl rfl rfl ?_
            refine JO.no rfl rfl rfl ?_
            refine JO.pur rfl rfl rfl (Pur.pickT rfl rfl) ?_
            refine JO.pur rfl rfl rfl (Pur.move rfl) ?_
            refine JO.no rfl rfl rfl ?_
            refine JO.no rfl rfl rfl ?_
            refine JO.no rfl rfl rfl ?_
            refine JO.no rfl rfl rfl ?_
            refine JO.pur rfl rfl rfl (Pur.pickT rfl rfl) ?_
            refine JO.nil ?_
            refine J.condT rfl rfl ?_
            refine J.seq rfl ?_
            refine J.region rfl ?_
            refine JO.pur rfl rfl rfl (Pur.build (cs := [_, _]) rfl rfl) ?_
            refine JO.effN rfl rfl (Eff.storeBA (cs' := [_, _]) rfl rfl (by rfl) (by rfl) (by rfl)) ?_
            rintro _ _ ⟨rfl, rfl⟩
            refine JO.pur rfl rfl rfl (Pur.assign rfl) ?_
            refine JO.nil ?_
            refine J.retC rfl (.cell rfl (ld_agg rfl CellsIn.blk) (.tmp rfl .nil)) ?_
            have hv : frmS rs starts cols = (([], []), 5) := (from_ref hgd hl2).2 (fun g => by rw [g] at hne; exact hne rfl)
            refine ⟨_, _, ⟨none, 0, none, 0, [], rfl, rfl⟩, by rw [hv]; rfl, fun h s => ?_⟩
            rw [hv]; exact sl_nil_new (sl_nil_new (rows_nil (SubC.out h s)))
          · try simp only [decide_eq_true_eq, decide_eq_false_iff_not, Bool.not_eq_true', Bool.not_eq_false', Bool.and_eq_true, Bool.or_eq_true, Bool.and_eq_false_iff, Bool.or_eq_false_iff, Option.isNone_some, Option.isSome_some, Option.isNone_none, Option.isSome_none, Int.not_lt, Int.not_le, beq_iff_eq, beq_eq_false_iff_ne, bne_iff_ne, ne_eq, Bool.not_not, Decidable.not_not] at h134
            have heq : (rowsV rs (madeL rs (atR_ rs starts cols))).2.2 = 0 := by simpa using h134
            refine JO.pur rfl rfl rfl (Pur.move rfl) ?_
            refine JO.pur rfl rfl rfl (Pur.move rfl) ?_
            refine JO.effR rfl rfl rfl (Eff.call rfl (same5_ok (xs := (rowsV rs (madeL rs (atR_ rs starts cols))).1) (ys := starts) rfl rfl hrl.1)) ?_
            refine JO.pur rfl rfl rfl (Pur.not rfl) ?_
            refine JO.pur rfl rfl rfl (Pur.pickF rfl rfl) ?_
            refine JO.pur rfl rfl rfl (Pur.move rfl) ?_
            refine JO.splitB 140 rfl (fun h140 => ?_) (fun h140 => ?_)
            · try simp only [decide_eq_true_eq, decide_eq_false_iff_not, Bool.not_eq_true', Bool.not_eq_false', Bool.and_eq_true, Bool.or_eq_true, Bool.and_eq_false_iff, Bool.or_eq_false_iff, Option.isNone_some, Option.isSome_some, Option.isNone_none, Option.isSome_none, Int.not_lt, Int.not_le, beq_iff_eq, beq_eq_false_iff_ne, bne_iff_ne, ne_eq, Bool.not_not, Decidable.not_not] at h140
              refine JO.no rfl rfl rfl ?_
              refine JO.no rfl rfl rfl ?_
              refine JO.no rfl rfl rfl ?_
              refine JO.no rfl rfl rfl ?_
              refine JO.pur rfl rfl rfl (Pur.pickT rfl rfl) ?_
              refine JO.nil ?_
              refine J.condT rfl rfl ?_
              refine J.seq rfl ?_
              refine J.region rfl ?_
              refine JO.pur rfl rfl rfl (Pur.build (cs := [_, _]) rfl rfl) ?_
              refine JO.effN rfl rfl (Eff.storeBA (cs' := [_, _]) rfl rfl (by rfl) (by rfl) (by rfl)) ?_
              rintro _ _ ⟨rfl, rfl⟩
              refine JO.pur rfl rfl rfl (Pur.assign rfl) ?_
              refine JO.nil ?_
              refine J.retC rfl (.cell rfl (ld_agg rfl CellsIn.blk) (.tmp rfl .nil)) ?_
              have hv : frmS rs starts cols = (([], []), 5) := (from_ref hgd hl2).2 (fun g => h140 (by rw [g]))
              refine ⟨_, _, ⟨none, 0, none, 0, [], rfl, rfl⟩, by rw [hv]; rfl, fun h s => ?_⟩
              rw [hv]; exact sl_nil_new (sl_nil_new (rows_nil (SubC.out h s)))
            · try simp only [decide_eq_true_eq, decide_eq_false_iff_not, Bool.not_eq_true', Bool.not_eq_false', Bool.and_eq_true, Bool.or_eq_true, Bool.and_eq_false_iff, Bool.or_eq_false_iff, Option.isNone_some, Option.isSome_some, Option.isNone_none, Option.isSome_none, Int.not_lt, Int.not_le, beq_iff_eq, beq_eq_false_iff_ne, bne_iff_ne, ne_eq, Bool.not_not, Decidable.not_not] at h140
              refine JO.pur rfl rfl rfl (Pur.move rfl) ?_
              refine JO.pur rfl rfl rfl (Pur.move rfl) ?_
              refine JO.effR rfl rfl rfl (Eff.call rfl (same5_ok (xs := (rowsV rs (madeL rs (atR_ rs starts cols))).2.1) (ys := cols) rfl rfl hrl.2)) ?_
              refine JO.pur rfl rfl rfl (Pur.not rfl) ?_
              refine JO.pur rfl rfl rfl (Pur.pickF rfl rfl) ?_
              refine JO.nil ?_
              refine J.splitB 145 rfl (fun h145 => ?_) (fun h145 => ?_)
              · try simp only [decide_eq_true_eq, decide_eq_false_iff_not, Bool.not_eq_true', Bool.not_eq_false', Bool.and_eq_true, Bool.or_eq_true, Bool.and_eq_false_iff, Bool.or_eq_false_iff, Option.isNone_some, Option.isSome_some, Option.isNone_none, Option.isSome_none, Int.not_lt, Int.not_le, beq_iff_eq, beq_eq_false_iff_ne, bne_iff_ne, ne_eq, Bool.not_not, Decidable.not_not] at h145
                refine J.condT rfl rfl ?_
                refine J.seq rfl ?_
                refine J.region rfl ?_
                refine JO.pur rfl rfl rfl (Pur.build (cs := [_, _]) rfl rfl) ?_
                refine JO.effN rfl rfl (Eff.storeBA (cs' := [_, _]) rfl rfl (by rfl) (by rfl) (by rfl)) ?_
                rintro _ _ ⟨rfl, rfl⟩
                refine JO.pur rfl rfl rfl (Pur.assign rfl) ?_
                refine JO.nil ?_
                refine J.retC rfl (.cell rfl (ld_agg rfl CellsIn.blk) (.tmp rfl .nil)) ?_
                have hv : frmS rs starts cols = (([], []), 5) := (from_ref hgd hl2).2 (fun g => h145 (by rw [g]))
                refine ⟨_, _, ⟨none, 0, none, 0, [], rfl, rfl⟩, by rw [hv]; rfl, fun h s => ?_⟩
                rw [hv]; exact sl_nil_new (sl_nil_new (rows_nil (SubC.out h s)))
              · try simp only [decide_eq_true_eq, decide_eq_false_iff_not, Bool.not_eq_true', Bool.not_eq_false', Bool.and_eq_true, Bool.or_eq_true, Bool.and_eq_false_iff, Bool.or_eq_false_iff, Option.isNone_some, Option.isSome_some, Option.isNone_none, Option.isSome_none, Int.not_lt, Int.not_le, beq_iff_eq, beq_eq_false_iff_ne, bne_iff_ne, ne_eq, Bool.not_not, Decidable.not_not] at h145
                refine J.condF rfl rfl ?_
                refine J.skip rfl ?_
                refine J.seq rfl ?_
                refine J.region rfl ?_
                refine JO.pur rfl rfl rfl (Pur.loadA rfl rfl rfl CellsIn.blk) ?_
                refine JO.effN rfl rfl (Eff.storeBA (cs' := [_, _]) rfl rfl (by rfl) (by rfl) (by rfl)) ?_
                rintro _ _ ⟨rfl, rfl⟩
                refine JO.pur rfl rfl rfl (Pur.assign rfl) ?_
                refine JO.nil ?_
                refine J.retC rfl (.cell rfl (ld_agg rfl CellsIn.blk) (.tmp rfl .nil)) ?_
                have hv : frmS rs starts cols = ((rs, (madeL rs (atR_ rs starts cols))), 0) := (from_ref hgd hl2).1 (Prod.ext h140 (Prod.ext h145 heq))
                refine ⟨_, _, ⟨pa, pc, qa, qc, hs0, rfl, rfl⟩, by rw [hv]; rfl, fun h s => ?_⟩
                rw [hv]
                exact SubC.out h s
      · try simp only [decide_eq_true_eq, decide_eq_false_iff_not, Bool.not_eq_true', Bool.not_eq_false', Bool.and_eq_true, Bool.or_eq_true, Bool.and_eq_false_iff, Bool.or_eq_false_iff, Option.isNone_some, Option.isSome_some, Option.isNone_none, Option.isSome_none, Int.not_lt, Int.not_le, beq_iff_eq, beq_eq_false_iff_ne, bne_iff_ne, ne_eq, Bool.not_not, Decidable.not_not] at h50
        have hkat : (atF W (cntD rs) starts cols k) = (atR_ rs starts cols) := by
          unfold atR_; rw [← hW]
          by_cases g : cols.length ≤ 400
          · rw [if_pos g, show k = starts.length - 1 by omega]
          · rw [if_neg g, show k = 0 by omega]; rfl
        have hatl : (atR_ rs starts cols).length ≤ 100000000 := by
          rw [← hkat]
          by_cases g : cols.length ≤ 400
          · have := atF_len W (cntD rs) starts cols g k; omega
          · rw [show k = 0 by omega]; simp [atF]
        have hatm : ∀ t ∈ (atR_ rs starts cols), 0 ≤ t ∧ t < (cntD rs : Int) := fun t ht => by rw [← hkat] at ht; exact atF_mem ht
        rw [hkat]
        refine JO.no rfl rfl rfl ?_
        refine JO.no rfl rfl rfl ?_
        refine JO.no rfl rfl rfl ?_
        refine JO.pur rfl rfl rfl (Pur.pickF rfl rfl) ?_
        refine JO.nil ?_
        refine J.condF rfl rfl ?_
        refine J.exit rfl rfl ?_
        refine J.seq rfl ?_
        refine J.region rfl ?_
        refine JO.pur rfl rfl rfl (Pur.loadA rfl rfl rfl CellsIn.blk) ?_
        refine JO.pur rfl rfl rfl (Pur.move rfl) ?_
        refine JO.eff rfl rfl rfl (Eff.call rfl (made_ok (rs := rs) (ts := (atR_ rs starts cols)) rfl rfl hgd hatl hatm)) ?_
        rintro _ _ ⟨pa, pc, qa, qc, hs0, rfl, rfl⟩
        refine JO.eff rfl rfl rfl (Eff.alloc (cs := [_, _]) rfl) ?_
        rintro _ _ ⟨b17, rfl, rfl⟩
        refine JO.effN rfl rfl (Eff.storeBA (cs' := [_, _]) rfl rfl (by rfl) (by rfl) (by rfl)) ?_
        rintro _ _ ⟨rfl, rfl⟩
        refine JO.nil ?_
        refine J.seq rfl ?_
        refine J.fact (fun h s => RowsR.len (E := intE) (hs := hs0) (xss := (madeL rs (atR_ rs starts cols))) s) fun hnn0 => ?_
        have hl0 : (madeL rs (atR_ rs starts cols)).length = hs0.length := (rows_len hnn0).symm
        have hrl := rowsV_len (rs := rs) (xss := (madeL rs (atR_ rs starts cols)))
        refine J.region rfl ?_
        refine JO.pur rfl rfl rfl (Pur.loadA rfl rfl rfl CellsIn.blk) ?_
        refine JO.eff rfl rfl rfl (Eff.call rfl (rs_Rows (rs := rs) (hs := hs0) (xss := (madeL rs (atR_ rs starts cols))) rfl hl0)) ?_
        rintro _ _ ⟨a128, c128, a129, c129, rfl, rfl⟩
        refine JO.pur rfl rfl rfl (Pur.move rfl) ?_
        refine JO.pur rfl rfl rfl (Pur.extract rfl rfl) ?_
        refine JO.pur rfl rfl rfl (Pur.extract rfl rfl) ?_
        refine JO.pur rfl rfl rfl (Pur.extract rfl rfl) ?_
        refine JO.pur rfl rfl rfl (Pur.assign rfl) ?_
        refine JO.pur rfl rfl rfl (Pur.assign rfl) ?_
        refine JO.pur rfl rfl rfl (Pur.assign rfl) ?_
        refine JO.nil ?_
        refine J.seq rfl ?_
        refine J.seq rfl ?_
        refine J.region rfl ?_
        refine JO.pur rfl rfl rfl (Pur.move rfl) ?_
        refine JO.pur rfl rfl rfl (Pur.neqI rfl rfl) ?_
        refine JO.pur rfl rfl rfl (Pur.move rfl) ?_
        refine JO.splitB 134 rfl (fun h134 => ?_) (fun h134 => ?_)
        · try simp only [decide_eq_true_eq, decide_eq_false_iff_not, Bool.not_eq_true', Bool.not_eq_false', Bool.and_eq_true, Bool.or_eq_true, Bool.and_eq_false_iff, Bool.or_eq_false_iff, Option.isNone_some, Option.isSome_some, Option.isNone_none, Option.isSome_none, Int.not_lt, Int.not_le, beq_iff_eq, beq_eq_false_iff_ne, bne_iff_ne, ne_eq, Bool.not_not, Decidable.not_not] at h134
          have hne : (rowsV rs (madeL rs (atR_ rs starts cols))).2.2 ≠ 0 := by simpa using h134
          refine JO.no rfl rfl rfl ?_
          refine JO.no rfl rfl rfl ?_
          refine JO.no rfl rfl rfl ?_
          refine JO.no rfl rfl rfl ?_
          refine JO.pur rfl rfl rfl (Pur.pickT rfl rfl) ?_
          refine JO.pur rfl rfl rfl (Pur.move rfl) ?_
          refine JO.no rfl rfl rfl ?_
          refine JO.no rfl rfl rfl ?_
          refine JO.no rfl rfl rfl ?_
          refine JO.no rfl rfl rfl ?_
          refine JO.pur rfl rfl rfl (Pur.pickT rfl rfl) ?_
          refine JO.nil ?_
          refine J.condT rfl rfl ?_
          refine J.seq rfl ?_
          refine J.region rfl ?_
          refine JO.pur rfl rfl rfl (Pur.build (cs := [_, _]) rfl rfl) ?_
          refine JO.effN rfl rfl (Eff.storeBA (cs' := [_, _]) rfl rfl (by rfl) (by rfl) (by rfl)) ?_
          rintro _ _ ⟨rfl, rfl⟩
          refine JO.pur rfl rfl rfl (Pur.assign rfl) ?_
          refine JO.nil ?_
          refine J.retC rfl (.cell rfl (ld_agg rfl CellsIn.blk) (.tmp rfl .nil)) ?_
          have hv : frmS rs starts cols = (([], []), 5) := (from_ref hgd hl2).2 (fun g => by rw [g] at hne; exact hne rfl)
          refine ⟨_, _, ⟨none, 0, none, 0, [], rfl, rfl⟩, by rw [hv]; rfl, fun h s => ?_⟩
          rw [hv]; exact sl_nil_new (sl_nil_new (rows_nil (SubC.out h s)))
        · try simp only [decide_eq_true_eq, decide_eq_false_iff_not, Bool.not_eq_true', Bool.not_eq_false', Bool.and_eq_true, Bool.or_eq_true, Bool.and_eq_false_iff, Bool.or_eq_false_iff, Option.isNone_some, Option.isSome_some, Option.isNone_none, Option.isSome_none, Int.not_lt, Int.not_le, beq_iff_eq, beq_eq_false_iff_ne, bne_iff_ne, ne_eq, Bool.not_not, Decidable.not_not] at h134
          have heq : (rowsV rs (madeL rs (atR_ rs starts cols))).2.2 = 0 := by simpa using h134
          refine JO.pur rfl rfl rfl (Pur.move rfl) ?_
          refine JO.pur rfl rfl rfl (Pur.move rfl) ?_
          refine JO.effR rfl rfl rfl (Eff.call rfl (same5_ok (xs := (rowsV rs (madeL rs (atR_ rs starts cols))).1) (ys := starts) rfl rfl hrl.1)) ?_
          refine JO.pur rfl rfl rfl (Pur.not rfl) ?_
          refine JO.pur rfl rfl rfl (Pur.pickF rfl rfl) ?_
          refine JO.pur rfl rfl rfl (Pur.move rfl) ?_
          refine JO.splitB 140 rfl (fun h140 => ?_) (fun h140 => ?_)
          · try simp only [decide_eq_true_eq, decide_eq_false_iff_not, Bool.not_eq_true', Bool.not_eq_false', Bool.and_eq_true, Bool.or_eq_true, Bool.and_eq_false_iff, Bool.or_eq_false_iff, Option.isNone_some, Option.isSome_some, Option.isNone_none, Option.isSome_none, Int.not_lt, Int.not_le, beq_iff_eq, beq_eq_false_iff_ne, bne_iff_ne, ne_eq, Bool.not_not, Decidable.not_not] at h140
            refine JO.no rfl rfl rfl ?_
            refine JO.no rfl rfl rfl ?_
            refine JO.no rfl rfl rfl ?_
            refine JO.no rfl rfl rfl ?_
            refine JO.pur rfl rfl rfl (Pur.pickT rfl rfl) ?_
            refine JO.nil ?_
            refine J.condT rfl rfl ?_
            refine J.seq rfl ?_
            refine J.region rfl ?_
            refine JO.pur rfl rfl rfl (Pur.build (cs := [_, _]) rfl rfl) ?_
            refine JO.effN rfl rfl (Eff.storeBA (cs' := [_, _]) rfl rfl (by rfl) (by rfl) (by rfl)) ?_
            rintro _ _ ⟨rfl, rfl⟩
            refine JO.pur rfl rfl rfl (Pur.assign rfl) ?_
            refine JO.nil ?_
            refine J.retC rfl (.cell rfl (ld_agg rfl CellsIn.blk) (.tmp rfl .nil)) ?_
            have hv : frmS rs starts cols = (([], []), 5) := (from_ref hgd hl2).2 (fun g => h140 (by rw [g]))
            refine ⟨_, _, ⟨none, 0, none, 0, [], rfl, rfl⟩, by rw [hv]; rfl, fun h s => ?_⟩
            rw [hv]; exact sl_nil_new (sl_nil_new (rows_nil (SubC.out h s)))
          · try simp only [decide_eq_true_eq, decide_eq_false_iff_not, Bool.not_eq_true', Bool.not_eq_false', Bool.and_eq_true, Bool.or_eq_true, Bool.and_eq_false_iff, Bool.or_eq_false_iff, Option.isNone_some, Option.isSome_some, Option.isNone_none, Option.isSome_none, Int.not_lt, Int.not_le, beq_iff_eq, beq_eq_false_iff_ne, bne_iff_ne, ne_eq, Bool.not_not, Decidable.not_not] at h140
            refine JO.pur rfl rfl rfl (Pur.move rfl) ?_
            refine JO.pur rfl rfl rfl (Pur.move rfl) ?_
            refine JO.effR rfl rfl rfl (Eff.call rfl (same5_ok (xs := (rowsV rs (madeL rs (atR_ rs starts cols))).2.1) (ys := cols) rfl rfl hrl.2)) ?_
            refine JO.pur rfl rfl rfl (Pur.not rfl) ?_
            refine JO.pur rfl rfl rfl (Pur.pickF rfl rfl) ?_
            refine JO.nil ?_
            refine J.splitB 145 rfl (fun h145 => ?_) (fun h145 => ?_)
            · try simp only [decide_eq_true_eq, decide_eq_false_iff_not, Bool.not_eq_true', Bool.not_eq_false', Bool.and_eq_true, Bool.or_eq_true, Bool.and_eq_false_iff, Bool.or_eq_false_iff, Option.isNone_some, Option.isSome_some, Option.isNone_none, Option.isSome_none, Int.not_lt, Int.not_le, beq_iff_eq, beq_eq_false_iff_ne, bne_iff_ne, ne_eq, Bool.not_not, Decidable.not_not] at h145
              refine J.condT rfl rfl ?_
              refine J.seq rfl ?_
              refine J.region rfl ?_
              refine JO.pur rfl rfl rfl (Pur.build (cs := [_, _]) rfl rfl) ?_
              refine JO.effN rfl rfl (Eff.storeBA (cs' := [_, _]) rfl rfl (by rfl) (by rfl) (by rfl)) ?_
              rintro _ _ ⟨rfl, rfl⟩
              refine JO.pur rfl rfl rfl (Pur.assign rfl) ?_
              refine JO.nil ?_
              refine J.retC rfl (.cell rfl (ld_agg rfl CellsIn.blk) (.tmp rfl .nil)) ?_
              have hv : frmS rs starts cols = (([], []), 5) := (from_ref hgd hl2).2 (fun g => h145 (by rw [g]))
              refine ⟨_, _, ⟨none, 0, none, 0, [], rfl, rfl⟩, by rw [hv]; rfl, fun h s => ?_⟩
              rw [hv]; exact sl_nil_new (sl_nil_new (rows_nil (SubC.out h s)))
            · try simp only [decide_eq_true_eq, decide_eq_false_iff_not, Bool.not_eq_true', Bool.not_eq_false', Bool.and_eq_true, Bool.or_eq_true, Bool.and_eq_false_iff, Bool.or_eq_false_iff, Option.isNone_some, Option.isSome_some, Option.isNone_none, Option.isSome_none, Int.not_lt, Int.not_le, beq_iff_eq, beq_eq_false_iff_ne, bne_iff_ne, ne_eq, Bool.not_not, Decidable.not_not] at h145
              refine J.condF rfl rfl ?_
              refine J.skip rfl ?_
              refine J.seq rfl ?_
              refine J.region rfl ?_
              refine JO.pur rfl rfl rfl (Pur.loadA rfl rfl rfl CellsIn.blk) ?_
              refine JO.effN rfl rfl (Eff.storeBA (cs' := [_, _]) rfl rfl (by rfl) (by rfl) (by rfl)) ?_
              rintro _ _ ⟨rfl, rfl⟩
              refine JO.pur rfl rfl rfl (Pur.assign rfl) ?_
              refine JO.nil ?_
              refine J.retC rfl (.cell rfl (ld_agg rfl CellsIn.blk) (.tmp rfl .nil)) ?_
              have hv : frmS rs starts cols = ((rs, (madeL rs (atR_ rs starts cols))), 0) := (from_ref hgd hl2).1 (Prod.ext h140 (Prod.ext h145 heq))
              refine ⟨_, _, ⟨pa, pc, qa, qc, hs0, rfl, rfl⟩, by rw [hv]; rfl, fun h s => ?_⟩
              rw [hv]
              exact SubC.out h s

end Go.Proofs.Ytnhippfllgnngaa
