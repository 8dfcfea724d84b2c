/-
  A part of the proof of the claim that this folder bears.
-/
import Derived.Test.YtnhippfllgnngaaPAE
/- The text SB3. -/
set_option linter.unusedVariables false
set_option linter.unusedSimpArgs false
set_option maxRecDepth 10000
namespace Go.Proofs.Ytnhippfllgnngaa
open Go Go.KK Dm

/-- What Place answers. -/
def plV (rs : List Rg) (x : List Int) : Int × Int := if ¬ okD rs then (0, 40) else if x.length ≠ rs.length then (0, 2) else match plD rs x with | some n => ((n : Int), 0) | none => (0, 5)
theorem plK_none {d : List Rg} {x : List Int} : ∀ {j k : Nat}, k ≤ j → plK d x k = none → plK d x j = none
  | 0, k, h, e => by rw [show k = 0 by omega] at e; exact e
  | j + 1, k, h, e => by
    by_cases he : k = j + 1
    · rw [← he]; exact e
    · have := plK_none (d := d) (x := x) (j := j) (k := k) (by omega) e
      unfold plK; rw [this]
theorem plK_lt {d : List Rg} (h : okRs d) {x : List Int} {k n : Nat} (hd : k ≤ d.length) (hx : k ≤ x.length) (e : plK d x k = some n) : n < cntD (d.take k) := by
  have := (plK_idx h (x := x) hd hx).1 e
  rw [← idx_len_take d k hd]; exact (List.getElem?_eq_some_iff.1 this).1
theorem cntD_take_le2 {rs : List Rg} (h0 : cntD rs ≠ 0) {k : Nat} (hk : k ≤ rs.length) : cntD (rs.take k) ≤ cntD rs := by
  have := cntD_take_le (rs := rs) (fun r hr => cnt_pos hr h0) (j := rs.length) (k := k) hk (Nat.le_refl _)
  rwa [List.take_length] at this
/-- What Has answers. -/
def hasV (rs : List Rg) (x : List Int) : Bool × Int := if ¬ okD rs then (false, 40) else if x.length ≠ rs.length then (false, 2) else ((plD rs x).isSome, 0)
/-- What Ith answers. -/
def ithV (rs : List Rg) (i : Int) : List Int × Int := if ¬ okD rs then ([], 40) else if i < 0 ∨ (cntD rs : Int) ≤ i then ([], 2) else (ixD rs i.toNat, 0)
/-- What Indexes answers. -/
def ixsV (rs : List Rg) : List (List Int) := if okD rs then idx rs else []
theorem hasV_eq {rs : List Rg} {x : List Int} : hasV rs x = if (plV rs x).2 = 5 then (false, 0) else (decide ((plV rs x).2 = 0), (plV rs x).2) := by
  unfold hasV plV
  by_cases g1 : okD rs
  · rw [if_neg (not_not_intro g1), if_neg (not_not_intro g1)]
    by_cases g2 : x.length ≠ rs.length
    · rw [if_pos g2, if_pos g2]; rfl
    · rw [if_neg g2, if_neg g2]
      cases plD rs x <;> rfl
  · rw [if_pos g1, if_pos g1]; rfl
theorem plD_some {rs : List Rg} {x : List Int} (hl : x.length = rs.length) : plD rs x = plK rs x rs.length := by unfold plD; rw [if_pos hl]
theorem cntD_mono3 {rs : List Rg} (h : okRs rs) {k : Nat} (hk : k ≤ rs.length) (h3 : rs.length ≤ 3) : (cntD (rs.take k) : Nat) ≤ 2000001 ^ k := by
  induction k with
  | zero => rw [List.take_zero]; decide
  | succ k ih =>
    rw [cntD_take hk, Nat.pow_succ]
    exact Nat.mul_le_mul (ih (by omega)) (cnt_le (h _ (getD_mem hk)))
theorem d_Place {L : List Asn} {a b : Option Addr} {n cap m cq : Nat} {rs : List Rg} {x : List Int} [SlIn rgE L a rs] [SlIn intE L b x] (hn : n = rs.length) (hm : m = x.length) :
    CallS Try.prog 88 [.agg #[.slice a n cap], .slice b m cq].toArray L (fun v M => v = .tuple #[.int .i64 (plV rs x).1, .int .i64 (plV rs x).2] ∧ M = L) := by
  subst hn
  subst hm
  refine CallS.ent ?_
  refine CallS.enter Try.func88 rfl rfl rfl rfl rfl ?_
  refine J.seq rfl ?_
  refine J.region rfl ?_
  refine JO.eff rfl rfl rfl (Eff.box (cs := [_]) rfl rfl) ?_
  rintro _ _ ⟨b2, rfl, rfl⟩
  refine JO.pur rfl rfl rfl (Pur.assign rfl) ?_
  refine JO.pur rfl rfl rfl (Pur.assign rfl) ?_
  refine JO.nil ?_
  refine J.seq rfl ?_
  refine J.region rfl ?_
  refine JO.pur rfl rfl rfl (Pur.loadA rfl rfl rfl CellsIn.blk) ?_
  refine JO.eff rfl rfl rfl (Eff.call rfl (counts_ok (rs := rs) rfl)) ?_
  rintro _ _ ⟨a16, c16, rfl, rfl⟩
  refine JO.pur rfl rfl rfl (Pur.move rfl) ?_
  refine JO.pur rfl rfl rfl (Pur.extract rfl rfl) ?_
  refine JO.pur rfl rfl rfl (Pur.extract rfl rfl) ?_
  refine JO.pur rfl rfl rfl (Pur.extract rfl rfl) ?_
  refine JO.setv (u' := .bool (decide (okD rs))) 19 rfl rfl ?_
  refine JO.pur rfl rfl rfl (Pur.assign rfl) ?_
  refine JO.pur rfl rfl rfl (Pur.assign rfl) ?_
  refine JO.pur rfl rfl rfl (Pur.assign rfl) ?_
  refine JO.nil ?_
  refine J.seq rfl ?_
  refine J.block rfl ?_
  refine J.seq rfl ?_
  refine J.region rfl ?_
  refine JO.pur rfl rfl rfl (Pur.move rfl) ?_
  refine JO.pur rfl rfl rfl (Pur.not rfl) ?_
  refine JO.setv (u' := .bool (!decide (okD rs))) 22 rfl rfl ?_
  refine JO.pur rfl rfl rfl (Pur.assign rfl) ?_
  refine JO.nil ?_
  refine J.splitB 20 rfl (fun h20 => ?_) (fun h20 => ?_)
  · try simp only [decide_eq_true_eq, decide_eq_false_iff_not, Bool.not_eq_true', Bool.not_eq_false', Bool.and_eq_true, Bool.or_eq_true, Bool.and_eq_false_iff, Bool.or_eq_false_iff, Option.isNone_some, Option.isSome_some, Option.isNone_none, Option.isSome_none, Int.not_lt, Int.not_le, beq_iff_eq, beq_eq_false_iff_ne, bne_iff_ne, ne_eq, Bool.not_not, Decidable.not_not] at h20
    have hbad : ¬ okD rs := by simpa using h20
    refine J.condT rfl rfl ?_
    refine J.seq rfl ?_
    refine J.region rfl ?_
    refine JO.pur rfl rfl rfl (Pur.assign rfl) ?_
    refine JO.pur rfl rfl rfl (Pur.assign rfl) ?_
    refine JO.nil ?_
    refine J.ret rfl rfl ?_
    refine ⟨_, _, ⟨rfl, rfl⟩, ?_, SubC.out⟩
    unfold plV; rw [if_pos hbad]; rfl
  · try simp only [decide_eq_true_eq, decide_eq_false_iff_not, Bool.not_eq_true', Bool.not_eq_false', Bool.and_eq_true, Bool.or_eq_true, Bool.and_eq_false_iff, Bool.or_eq_false_iff, Option.isNone_some, Option.isSome_some, Option.isNone_none, Option.isSome_none, Int.not_lt, Int.not_le, beq_iff_eq, beq_eq_false_iff_ne, bne_iff_ne, ne_eq, Bool.not_not, Decidable.not_not] at h20
    have hgood : okD rs := by simpa using h20
    have hls : lsD rs = rs.map cntI := by unfold lsD; rw [if_pos hgood]
    have hll : (lsD rs).length = rs.length := by rw [hls]; simp
    have hl3 := hgood.2.1
    have hc4 := hgood.2.2.2
    refine J.condF rfl rfl ?_
    refine J.seq rfl ?_
    refine J.region rfl ?_
    refine JO.pur rfl rfl rfl (Pur.move rfl) ?_
    refine JO.pur rfl rfl rfl (Pur.len rfl) ?_
    refine JO.pur rfl rfl rfl (Pur.move rfl) ?_
    refine JO.pur rfl rfl rfl (Pur.len rfl) ?_
    refine JO.pur rfl rfl rfl (Pur.neqI rfl rfl) ?_
    refine JO.pur rfl rfl rfl (Pur.assign rfl) ?_
    refine JO.nil ?_
    refine J.splitB 23 rfl (fun h23 => ?_) (fun h23 => ?_)
    · try simp only [decide_eq_true_eq, decide_eq_false_iff_not, Bool.not_eq_true', Bool.not_eq_false', Bool.and_eq_true, Bool.or_eq_true, Bool.and_eq_false_iff, Bool.or_eq_false_iff, Option.isNone_some, Option.isSome_some, Option.isNone_none, Option.isSome_none, Int.not_lt, Int.not_le, beq_iff_eq, beq_eq_false_iff_ne, bne_iff_ne, ne_eq, Bool.not_not, Decidable.not_not] at h23
      have hle : x.length ≠ rs.length := by rw [hll] at h23; omega
      refine J.condT rfl rfl ?_
      refine J.seq rfl ?_
      refine J.region rfl ?_
      refine JO.pur rfl rfl rfl (Pur.assign rfl) ?_
      refine JO.pur rfl rfl rfl (Pur.assign rfl) ?_
      refine JO.nil ?_
      refine J.ret rfl rfl ?_
      refine ⟨_, _, ⟨rfl, rfl⟩, ?_, SubC.out⟩
      unfold plV; rw [if_neg (not_not_intro hgood), if_pos hle]; rfl
    · try simp only [decide_eq_true_eq, decide_eq_false_iff_not, Bool.not_eq_true', Bool.not_eq_false', Bool.and_eq_true, Bool.or_eq_true, Bool.and_eq_false_iff, Bool.or_eq_false_iff, Option.isNone_some, Option.isSome_some, Option.isNone_none, Option.isSome_none, Int.not_lt, Int.not_le, beq_iff_eq, beq_eq_false_iff_ne, bne_iff_ne, ne_eq, Bool.not_not, Decidable.not_not] at h23
      have hle : x.length = rs.length := by rw [hll] at h23; omega
      refine J.condF rfl rfl ?_
      refine J.skip rfl ?_
      refine J.inBlock ?_
      refine J.seq rfl ?_
      refine J.region rfl ?_
      refine JO.pur rfl rfl rfl (Pur.assign rfl) ?_
      refine JO.nil ?_
      refine J.seq rfl ?_
      refine J.seq rfl ?_
      refine J.region rfl ?_
      refine JO.pur rfl rfl rfl (Pur.fieldAddr rfl) ?_
      refine JO.pur rfl rfl rfl (Pur.load rfl (CellIn.blk rfl)) ?_
      refine JO.pur rfl rfl rfl (Pur.len rfl) ?_
      refine JO.pur rfl rfl rfl (Pur.move rfl) ?_
      refine JO.nil ?_
      refine J.block rfl ?_
      refine J.loopF (ι := Nat × Nat) (fun q => q.1 ≤ rs.length ∧ plK rs x q.1 = some q.2) (fun q => [(9, .int .i64 (q.2 : Int)), (32, .int .i64 (q.1 : Int))]) [(1, _), (6, _), (30, _), (31, _)] (fun q => sl intE a16 c16 (lsD rs) :: blk b2 (.cells #[.slice a rs.length cap] 24) :: L) (fun q => rs.length - q.1) (0, 0) rfl (.cons rfl rfl (.cons rfl rfl (.cons rfl rfl (.cons rfl rfl .nil)))) (.cons rfl rfl (.cons rfl rfl .nil)) (by first | exact fun _ h => h | exact SubC.out | (dsimp only; exact SubC.out)) ⟨Nat.zero_le _, rfl⟩ ?_
      rintro ⟨k, at1⟩ ⟨hk, hat⟩ ih0
      try dsimp only
      dsimp only at hk hat
      refine J.seq rfl ?_
      refine J.region rfl ?_
      refine JO.pur rfl rfl rfl (Pur.lss rfl rfl) ?_
      refine JO.nil ?_
      refine J.seq rfl ?_
      refine J.splitB 33 rfl (fun h33 => ?_) (fun h33 => ?_)
      · try simp only [decide_eq_true_eq, decide_eq_false_iff_not, Bool.not_eq_true', Bool.not_eq_false', Bool.and_eq_true, Bool.or_eq_true, Bool.and_eq_false_iff, Bool.or_eq_false_iff, Option.isNone_some, Option.isSome_some, Option.isNone_none, Option.isSome_none, Int.not_lt, Int.not_le, beq_iff_eq, beq_eq_false_iff_ne, bne_iff_ne, ne_eq, Bool.not_not, Decidable.not_not] at h33
        have hkl : k < rs.length := by omega
        have hlt := plK_lt hgood.2.2.1 (x := x) hk (by omega) hat
        have hxk : rs[k]? = some (rs.getD k default) := by rw [List.getD_eq_getElem?_getD, List.getElem?_eq_getElem hkl]; rfl
        have hmem := getD_mem (d := rs) (k := k) hkl
        have hct := cntD_take hkl
        have hpk : ∀ u, plR (rs.getD k default) (x.getD k default) = u → plK rs x (k + 1) = u.map (fun i => at1 * cnt (rs.getD k default) + i) := fun u hu => by
          unfold plK; rw [hat, hu]; cases u <;> rfl
        have hcm := cntD_mono3 hgood.2.2.1 hk hl3
        generalize hrr : rs.getD k default = r at *
        have hor := hgood.2.2.1 r hmem
        have hce := cnt_eq hor
        have hcl := cnt_le hor
        have hcg : (lsD rs)[k]? = some ((cnt r : Nat) : Int) := by rw [hls, List.getElem?_map, hxk, hce]; rfl
        have hxx : x[k]? = some (x.getD k default) := by rw [List.getD_eq_getElem?_getD, List.getElem?_eq_getElem (by omega)]; rfl
        generalize hxd : x.getD k default = y at *
        have hcm2 : cntD (rs.take k) ≤ 4096 ∨ cntD rs = 0 := by
          by_cases h0 : cntD rs = 0
          · exact .inr h0
          · exact .inl (Nat.le_trans (cntD_take_le2 h0 hk) hc4)
        refine J.condT rfl rfl ?_
        refine J.skip rfl ?_
        refine J.seq rfl ?_
        refine J.block rfl ?_
        refine J.seq rfl ?_
        refine J.region rfl ?_
        refine JO.pur rfl rfl rfl (Pur.move rfl) ?_
        refine JO.pur rfl rfl rfl (Pur.idx rfl rfl rfl (by first | rfl | (simp; done) | omega) rfl (by omega)) ?_
        refine JO.pur rfl rfl rfl (Pur.loadA rfl rfl rfl (CellsIn.el rfl hxk)) ?_
        refine JO.setv (u' := rgV r) 36 rfl rfl ?_
        refine JO.eff rfl rfl rfl (Eff.alloc (cs := [_, _, _]) rfl) ?_
        rintro _ _ ⟨b11, rfl, rfl⟩
        refine JO.pur rfl rfl rfl (Pur.assign rfl) ?_
        refine JO.effN rfl rfl (Eff.storeBA (cs' := [_, _, _]) rfl rfl (by rfl) (by rfl) (by rfl)) ?_
        rintro _ _ ⟨rfl, rfl⟩
        refine JO.nil ?_
        refine J.seq rfl ?_
        refine J.quiet rfl Try.mixed (by kernel_rfl) ?_
        refine JQ.pur rfl rfl rfl (Pur.loadA rfl rfl rfl CellsIn.blk) ?_
        refine JQ.pur rfl rfl rfl (Pur.move rfl) ?_
        refine JQ.pur rfl rfl rfl (Pur.move rfl) ?_
        refine JQ.pur rfl rfl rfl (Pur.idx rfl rfl rfl (by first | rfl | (simp; done) | omega) rfl (by omega)) ?_
        refine JQ.pur rfl rfl rfl (Pur.load rfl (CellIn.el0 rfl hxx rfl)) ?_
        refine JQ.setv (u' := .int .i64 y) 42 rfl rfl ?_
        refine JQ.callE rfl rfl rfl (span_Place hor) ?_
        refine JQ.pur rfl rfl rfl (Pur.move rfl) ?_
        refine JQ.pur rfl rfl rfl (Pur.extract rfl rfl) ?_
        refine JQ.setv (u' := .int .i64 (((plR r y).getD 0 : Nat) : Int)) 44 rfl rfl ?_
        refine JQ.pur rfl rfl rfl (Pur.extract rfl rfl) ?_
        refine JQ.pur rfl rfl rfl (Pur.assign rfl) ?_
        refine JQ.pur rfl rfl rfl (Pur.assign rfl) ?_
        refine JQ.nil ?_
        refine J.seq rfl ?_
        refine J.seq rfl ?_
        refine J.region rfl ?_
        refine JO.pur rfl rfl rfl (Pur.move rfl) ?_
        refine JO.pur rfl rfl rfl (Pur.neqI rfl rfl) ?_
        refine JO.nil ?_
        refine J.splitB 47 rfl (fun h47 => ?_) (fun h47 => ?_)
        · try simp only [decide_eq_true_eq, decide_eq_false_iff_not, Bool.not_eq_true', Bool.not_eq_false', Bool.and_eq_true, Bool.or_eq_true, Bool.and_eq_false_iff, Bool.or_eq_false_iff, Option.isNone_some, Option.isSome_some, Option.isNone_none, Option.isSome_none, Int.not_lt, Int.not_le, beq_iff_eq, beq_eq_false_iff_ne, bne_iff_ne, ne_eq, Bool.not_not, Decidable.not_not] at h47
          have hp : plR r y = none := by
            cases e : plR r y with
            | none => rfl
            | some i => rw [e] at h47; exact absurd rfl h47
          have hpn := plK_none (d := rs) (x := x) (j := rs.length) (k := k + 1) hkl (hpk none hp)
          refine J.condT rfl rfl ?_
          refine J.seq rfl ?_
          refine J.region rfl ?_
          refine JO.pur rfl rfl rfl (Pur.assign rfl) ?_
          refine JO.pur rfl rfl rfl (Pur.assign rfl) ?_
          refine JO.nil ?_
          refine J.ret rfl rfl ?_
          refine ⟨_, _, ⟨rfl, rfl⟩, ?_, SubC.out⟩
          unfold plV; rw [if_neg (not_not_intro hgood), if_neg (not_not_intro hle), plD_some hle, hpn]; rfl
        · try simp only [decide_eq_true_eq, decide_eq_false_iff_not, Bool.not_eq_true', Bool.not_eq_false', Bool.and_eq_true, Bool.or_eq_true, Bool.and_eq_false_iff, Bool.or_eq_false_iff, Option.isNone_some, Option.isSome_some, Option.isNone_none, Option.isSome_none, Int.not_lt, Int.not_le, beq_iff_eq, beq_eq_false_iff_ne, bne_iff_ne, ne_eq, Bool.not_not, Decidable.not_not] at h47
          obtain ⟨z, hp⟩ : ∃ z, plR r y = some z := by
            cases e : plR r y with
            | none => rw [e] at h47; exact absurd h47 (by decide)
            | some i => exact ⟨i, rfl⟩
          have hat2 := hpk (some z) hp
          have hzl := plR_lt hor hp
          have hlt2 := plK_lt hgood.2.2.1 (x := x) (k := k + 1) hkl (by omega) hat2
          have hcm3 := cntD_mono3 hgood.2.2.1 (k := k + 1) hkl hl3
          have hb1 : at1 * cnt r + z < 9000000000000000000 := by
            have : (2000001 : Nat) ^ (k + 1) ≤ 2000001 ^ 3 := Nat.pow_le_pow_right (by decide) (by omega)
            have : (2000001 : Nat) ^ 3 = 8000012000006000001 := by decide
            have hlt3 : at1 * cnt r + z < cntD (rs.take (k + 1)) := hlt2
            omega
          have hsum : ((at1 : Nat) : Int) * ((cnt r : Nat) : Int) + ((z : Nat) : Int) = ((at1 * cnt r + z : Nat) : Int) := by simp
          have hmm : ((at1 : Nat) : Int) * ((cnt r : Nat) : Int) = ((at1 * cnt r : Nat) : Int) := by simp
          refine J.condF rfl rfl ?_
          refine J.skip rfl ?_
          refine J.region rfl ?_
          refine JO.pur rfl rfl rfl (Pur.move rfl) ?_
          refine JO.pur rfl rfl rfl (Pur.move rfl) ?_
          refine JO.pur rfl rfl rfl (Pur.move rfl) ?_
          refine JO.pur rfl rfl rfl (Pur.idx rfl rfl rfl (by first | rfl | (simp; done) | omega) rfl (by omega)) ?_
          refine JO.pur rfl rfl rfl (Pur.load rfl (CellIn.el0 rfl hcg rfl)) ?_
          refine JO.pur rfl rfl rfl (Pur.mul rfl rfl (wr64 (by rw [hmm]; omega))) ?_
          refine JO.setv (u' := .int .i64 ((z : Nat) : Int)) 12 rfl (by rw [hp]; rfl) ?_
          refine JO.pur rfl rfl rfl (Pur.move rfl) ?_
          refine JO.pur rfl rfl rfl (Pur.add rfl rfl (wr64 (by rw [hsum]; omega))) ?_
          refine JO.pur rfl rfl rfl (Pur.assign rfl) ?_
          refine JO.nil ?_
          refine J.inBlock ?_
          refine J.region rfl ?_
          refine JO.pur rfl rfl rfl (Pur.add rfl rfl (wr64 (by omega))) ?_
          refine JO.pur rfl rfl rfl (Pur.move rfl) ?_
          refine JO.nil ?_
          exact J.weaken (.cons rfl (congrArg (Value.int .i64) hsum) (.cons rfl (congrArg (Value.int .i64) (by first | rfl | (dsimp only; omega))) (.cons rfl rfl (.cons rfl rfl (.cons rfl rfl (.cons rfl rfl .nil)))))) (by first | exact fun _ h => h | exact SubC.out | (dsimp only; exact SubC.out)) (ih0 (k + 1, at1 * cnt r + z) ⟨by dsimp only; omega, hat2⟩ (by dsimp only; omega))
      · try simp only [decide_eq_true_eq, decide_eq_false_iff_not, Bool.not_eq_true', Bool.not_eq_false', Bool.and_eq_true, Bool.or_eq_true, Bool.and_eq_false_iff, Bool.or_eq_false_iff, Option.isNone_some, Option.isSome_some, Option.isNone_none, Option.isSome_none, Int.not_lt, Int.not_le, beq_iff_eq, beq_eq_false_iff_ne, bne_iff_ne, ne_eq, Bool.not_not, Decidable.not_not] at h33
        have hke : k = rs.length := by omega
        rw [hke] at hat
        refine J.condF rfl rfl ?_
        refine J.exit rfl rfl ?_
        refine J.seq rfl ?_
        refine J.region rfl ?_
        refine JO.pur rfl rfl rfl (Pur.move rfl) ?_
        refine JO.pur rfl rfl rfl (Pur.assign rfl) ?_
        refine JO.pur rfl rfl rfl (Pur.assign rfl) ?_
        refine JO.nil ?_
        refine J.ret rfl rfl ?_
        refine ⟨_, _, ⟨rfl, rfl⟩, ?_, SubC.out⟩
        unfold plV; rw [if_neg (not_not_intro hgood), if_neg (not_not_intro hle), plD_some hle, hat]; rfl

theorem d_Has {L : List Asn} {a b : Option Addr} {n cap m cq : Nat} {rs : List Rg} {x : List Int} [SlIn rgE L a rs] [SlIn intE L b x] (hn : n = rs.length) (hm : m = x.length) :
    CallS Try.prog 101 [.agg #[.slice a n cap], .slice b m cq].toArray L (fun v M => v = .tuple #[.bool (hasV rs x).1, .int .i64 (hasV rs x).2] ∧ M = L) := by
  refine CallS.ent ?_
  refine CallS.enter Try.func101 rfl rfl rfl rfl rfl ?_
  refine J.seq rfl ?_
  refine J.region rfl ?_
  refine JO.eff rfl rfl rfl (Eff.box (cs := [_]) rfl rfl) ?_
  rintro _ _ ⟨b2, rfl, rfl⟩
  refine JO.pur rfl rfl rfl (Pur.assign rfl) ?_
  refine JO.pur rfl rfl rfl (Pur.assign rfl) ?_
  refine JO.nil ?_
  refine J.seq rfl ?_
  refine J.region rfl ?_
  refine JO.pur rfl rfl rfl (Pur.loadA rfl rfl rfl CellsIn.blk) ?_
  refine JO.pur rfl rfl rfl (Pur.move rfl) ?_
  refine JO.effR rfl rfl rfl (Eff.call rfl (d_Place (rs := rs) (x := x) hn hm)) ?_
  refine JO.pur rfl rfl rfl (Pur.move rfl) ?_
  refine JO.pur rfl rfl rfl (Pur.extract rfl rfl) ?_
  refine JO.pur rfl rfl rfl (Pur.extract rfl rfl) ?_
  refine JO.pur rfl rfl rfl (Pur.assign rfl) ?_
  refine JO.pur rfl rfl rfl (Pur.assign rfl) ?_
  refine JO.nil ?_
  refine J.seq rfl ?_
  refine J.seq rfl ?_
  refine J.region rfl ?_
  refine JO.pur rfl rfl rfl (Pur.move rfl) ?_
  refine JO.pur rfl rfl rfl (Pur.eqlI rfl rfl) ?_
  refine JO.nil ?_
  refine J.splitB 15 rfl (fun h15 => ?_) (fun h15 => ?_)
  · try simp only [decide_eq_true_eq, decide_eq_false_iff_not, Bool.not_eq_true', Bool.not_eq_false', Bool.and_eq_true, Bool.or_eq_true, Bool.and_eq_false_iff, Bool.or_eq_false_iff, Option.isNone_some, Option.isSome_some, Option.isNone_none, Option.isSome_none, Int.not_lt, Int.not_le, beq_iff_eq, beq_eq_false_iff_ne, bne_iff_ne, ne_eq, Bool.not_not, Decidable.not_not] at h15
    have h15' : (plV rs x).2 = 5 := h15
    refine J.condT rfl rfl ?_
    refine J.seq rfl ?_
    refine J.region rfl ?_
    refine JO.pur rfl rfl rfl (Pur.assign rfl) ?_
    refine JO.pur rfl rfl rfl (Pur.assign rfl) ?_
    refine JO.nil ?_
    refine J.ret rfl rfl ?_
    refine ⟨_, _, ⟨rfl, rfl⟩, ?_, SubC.out⟩
    rw [hasV_eq, if_pos h15']; rfl
  · try simp only [decide_eq_true_eq, decide_eq_false_iff_not, Bool.not_eq_true', Bool.not_eq_false', Bool.and_eq_true, Bool.or_eq_true, Bool.and_eq_false_iff, Bool.or_eq_false_iff, Option.isNone_some, Option.isSome_some, Option.isNone_none, Option.isSome_none, Int.not_lt, Int.not_le, beq_iff_eq, beq_eq_false_iff_ne, bne_iff_ne, ne_eq, Bool.not_not, Decidable.not_not] at h15
    have h15' : ¬ (plV rs x).2 = 5 := h15
    refine J.condF rfl rfl ?_
    refine J.skip rfl ?_
    refine J.seq rfl ?_
    refine J.region rfl ?_
    refine JO.pur rfl rfl rfl (Pur.move rfl) ?_
    refine JO.pur rfl rfl rfl (Pur.eqlI rfl rfl) ?_
    refine JO.pur rfl rfl rfl (Pur.move rfl) ?_
    refine JO.pur rfl rfl rfl (Pur.assign rfl) ?_
    refine JO.pur rfl rfl rfl (Pur.assign rfl) ?_
    refine JO.nil ?_
    refine J.ret rfl rfl ?_
    refine ⟨_, _, ⟨rfl, rfl⟩, ?_, SubC.out⟩
    rw [hasV_eq, if_neg h15']; rfl

theorem d_Ith {L : List Asn} {a : Option Addr} {n cap : Nat} {rs : List Rg} {i : Int} [SlIn rgE L a rs] (hn : n = rs.length) :
    CallS Try.prog 95 [.agg #[.slice a n cap], .int .i64 i].toArray L (fun v M => ∃ a' c', v = .tuple #[.slice a' (ithV rs i).1.length c', .int .i64 (ithV rs i).2] ∧ M = sl intE a' c' (ithV rs i).1 :: L) := by
  subst hn
  refine CallS.ent ?_
  refine CallS.enter Try.func95 rfl rfl rfl rfl rfl ?_
  refine J.seq rfl ?_
  refine J.region rfl ?_
  refine JO.eff rfl rfl rfl (Eff.box (cs := [_]) rfl rfl) ?_
  rintro _ _ ⟨b2, rfl, rfl⟩
  refine JO.pur rfl rfl rfl (Pur.assign rfl) ?_
  refine JO.pur rfl rfl rfl (Pur.assign rfl) ?_
  refine JO.nil ?_
  refine J.seq rfl ?_
  refine J.region rfl ?_
  refine JO.pur rfl rfl rfl (Pur.loadA rfl rfl rfl CellsIn.blk) ?_
  refine JO.eff rfl rfl rfl (Eff.call rfl (counts_ok (rs := rs) rfl)) ?_
  rintro _ _ ⟨a11, c11, rfl, rfl⟩
  refine JO.pur rfl rfl rfl (Pur.move rfl) ?_
  refine JO.pur rfl rfl rfl (Pur.extract rfl rfl) ?_
  refine JO.pur rfl rfl rfl (Pur.extract rfl rfl) ?_
  refine JO.pur rfl rfl rfl (Pur.extract rfl rfl) ?_
  refine JO.setv (u' := .bool (decide (okD rs))) 14 rfl rfl ?_
  refine JO.pur rfl rfl rfl (Pur.assign rfl) ?_
  refine JO.pur rfl rfl rfl (Pur.assign rfl) ?_
  refine JO.pur rfl rfl rfl (Pur.assign rfl) ?_
  refine JO.nil ?_
  refine J.seq rfl ?_
  refine J.block rfl ?_
  refine J.seq rfl ?_
  refine J.region rfl ?_
  refine JO.pur rfl rfl rfl (Pur.move rfl) ?_
  refine JO.pur rfl rfl rfl (Pur.not rfl) ?_
  refine JO.pur rfl rfl rfl (Pur.assign rfl) ?_
  refine JO.nil ?_
  refine J.splitB 15 rfl (fun h15 => ?_) (fun h15 => ?_)
  · try simp only [decide_eq_true_eq, decide_eq_false_iff_not, Bool.not_eq_true', Bool.not_eq_false', Bool.and_eq_true, Bool.or_eq_true, Bool.and_eq_false_iff, Bool.or_eq_false_iff, Option.isNone_some, Option.isSome_some, Option.isNone_none, Option.isSome_none, Int.not_lt, Int.not_le, beq_iff_eq, beq_eq_false_iff_ne, bne_iff_ne, ne_eq, Bool.not_not, Decidable.not_not] at h15
    have hbad : ¬ okD rs := by simpa using h15
    refine J.condT rfl rfl ?_
    refine J.seq rfl ?_
    refine J.region rfl ?_
    refine JO.pur rfl rfl rfl (Pur.assign rfl) ?_
    refine JO.pur rfl rfl rfl (Pur.assign rfl) ?_
    refine JO.nil ?_
    refine J.ret rfl rfl ?_
    have hv : ithV rs i = ([], 40) := by unfold ithV; rw [if_pos hbad]
    refine ⟨_, _, ⟨none, 0, rfl, rfl⟩, by rw [hv]; rfl, fun h s => ?_⟩
    rw [hv]; exact sl_nil_new (SubC.out h s)
  · try simp only [decide_eq_true_eq, decide_eq_false_iff_not, Bool.not_eq_true', Bool.not_eq_false', Bool.and_eq_true, Bool.or_eq_true, Bool.and_eq_false_iff, Bool.or_eq_false_iff, Option.isNone_some, Option.isSome_some, Option.isNone_none, Option.isSome_none, Int.not_lt, Int.not_le, beq_iff_eq, beq_eq_false_iff_ne, bne_iff_ne, ne_eq, Bool.not_not, Decidable.not_not] at h15
    have hgood : okD rs := by simpa using h15
    have hls : lsD rs = rs.map cntI := by unfold lsD; rw [if_pos hgood]
    have hcv : ctV rs = ((cntD rs : Nat) : Int) := by unfold ctV; rw [if_pos hgood]
    refine J.condF rfl rfl ?_
    refine J.seq rfl ?_
    refine J.region rfl ?_
    refine JO.pur rfl rfl rfl (Pur.move rfl) ?_
    refine JO.pur rfl rfl rfl (Pur.lss rfl rfl) ?_
    refine JO.pur rfl rfl rfl (Pur.move rfl) ?_
    refine JO.splitB 21 rfl (fun h21 => ?_) (fun h21 => ?_)
    · try simp only [decide_eq_true_eq, decide_eq_false_iff_not, Bool.not_eq_true', Bool.not_eq_false', Bool.and_eq_true, Bool.or_eq_true, Bool.and_eq_false_iff, Bool.or_eq_false_iff, Option.isNone_some, Option.isSome_some, Option.isNone_none, Option.isSome_none, Int.not_lt, Int.not_le, beq_iff_eq, beq_eq_false_iff_ne, bne_iff_ne, ne_eq, Bool.not_not, Decidable.not_not] at h21
      refine JO.no rfl rfl rfl ?_
      refine JO.no rfl rfl rfl ?_
      refine JO.no rfl rfl rfl ?_
      refine JO.pur rfl rfl rfl (Pur.pickT rfl rfl) ?_
      refine JO.pur rfl rfl rfl (Pur.assign rfl) ?_
      refine JO.nil ?_
      refine J.condT rfl rfl ?_
      refine J.seq rfl ?_
      refine J.region rfl ?_
      refine JO.pur rfl rfl rfl (Pur.assign rfl) ?_
      refine JO.pur rfl rfl rfl (Pur.assign rfl) ?_
      refine JO.nil ?_
      refine J.ret rfl rfl ?_
      have hv : ithV rs i = ([], 2) := by unfold ithV; rw [if_neg (not_not_intro hgood), if_pos (by omega)]
      refine ⟨_, _, ⟨none, 0, rfl, rfl⟩, by rw [hv]; rfl, fun h s => ?_⟩
      rw [hv]; exact sl_nil_new (SubC.out h s)
    · try simp only [decide_eq_true_eq, decide_eq_false_iff_not, Bool.not_eq_true', Bool.not_eq_false', Bool.and_eq_true, Bool.or_eq_true, Bool.and_eq_false_iff, Bool.or_eq_false_iff, Option.isNone_some, Option.isSome_some, Option.isNone_none, Option.isSome_none, Int.not_lt, Int.not_le, beq_iff_eq, beq_eq_false_iff_ne, bne_iff_ne, ne_eq, Bool.not_not, Decidable.not_not] at h21
      refine JO.pur rfl rfl rfl (Pur.move rfl) ?_
      refine JO.pur rfl rfl rfl (Pur.move rfl) ?_
      refine JO.pur rfl rfl rfl (Pur.geq rfl rfl) ?_
      refine JO.pur rfl rfl rfl (Pur.pickF rfl rfl) ?_
      refine JO.pur rfl rfl rfl (Pur.assign rfl) ?_
      refine JO.nil ?_
      refine J.splitB 18 rfl (fun h18 => ?_) (fun h18 => ?_)
      · try simp only [decide_eq_true_eq, decide_eq_false_iff_not, Bool.not_eq_true', Bool.not_eq_false', Bool.and_eq_true, Bool.or_eq_true, Bool.and_eq_false_iff, Bool.or_eq_false_iff, Option.isNone_some, Option.isSome_some, Option.isNone_none, Option.isSome_none, Int.not_lt, Int.not_le, beq_iff_eq, beq_eq_false_iff_ne, bne_iff_ne, ne_eq, Bool.not_not, Decidable.not_not] at h18
        refine J.condT rfl rfl ?_
        refine J.seq rfl ?_
        refine J.region rfl ?_
        refine JO.pur rfl rfl rfl (Pur.assign rfl) ?_
        refine JO.pur rfl rfl rfl (Pur.assign rfl) ?_
        refine JO.nil ?_
        refine J.ret rfl rfl ?_
        have hv : ithV rs i = ([], 2) := by unfold ithV; rw [if_neg (not_not_intro hgood), if_pos (by omega)]
        refine ⟨_, _, ⟨none, 0, rfl, rfl⟩, by rw [hv]; rfl, fun h s => ?_⟩
        rw [hv]; exact sl_nil_new (SubC.out h s)
      · try simp only [decide_eq_true_eq, decide_eq_false_iff_not, Bool.not_eq_true', Bool.not_eq_false', Bool.and_eq_true, Bool.or_eq_true, Bool.and_eq_false_iff, Bool.or_eq_false_iff, Option.isNone_some, Option.isSome_some, Option.isNone_none, Option.isSome_none, Int.not_lt, Int.not_le, beq_iff_eq, beq_eq_false_iff_ne, bne_iff_ne, ne_eq, Bool.not_not, Decidable.not_not] at h18
        refine J.condF rfl rfl ?_
        refine J.skip rfl ?_
        refine J.inBlock ?_
        refine J.seq rfl ?_
        obtain ⟨j, hj⟩ : ∃ j : Nat, i = (j : Int) := ⟨i.toNat, by omega⟩
        subst hj
        have hjl : j < cntD rs := by omega
        rw [hls]
        refine J.region rfl ?_
        refine JO.pur rfl rfl rfl (Pur.loadA rfl rfl rfl CellsIn.blk) ?_
        refine JO.pur rfl rfl rfl (Pur.move rfl) ?_
        refine JO.pur rfl rfl rfl (Pur.move rfl) ?_
        refine JO.eff rfl rfl rfl (Eff.call rfl (index_ok (rs := rs) rfl (by rw [List.length_map]) hgood hjl)) ?_
        rintro _ _ ⟨a29, c29, rfl, rfl⟩
        refine JO.pur rfl rfl rfl (Pur.assign rfl) ?_
        refine JO.pur rfl rfl rfl (Pur.assign rfl) ?_
        refine JO.nil ?_
        refine J.ret rfl rfl ?_
        have hv : ithV rs ((j : Nat) : Int) = (ixD rs j, 0) := by unfold ithV; rw [if_neg (not_not_intro hgood), if_neg (by omega)]; rfl
        refine ⟨_, _, ⟨a29, c29, rfl, rfl⟩, by rw [hv, ixD_len hjl]; rfl, fun h s => ?_⟩
        rw [hv]; exact SubC.out h s

theorem d_Indexes {L : List Asn} {a : Option Addr} {n cap : Nat} {rs : List Rg} [SlIn rgE L a rs] (hn : n = rs.length) :
    CallS Try.prog 104 [.agg #[.slice a n cap]].toArray L (fun v M => ∃ a' c' hs, v = .tuple #[.slice a' (ixsV rs).length c', .int .i64 (erD rs)] ∧ M = sl hE a' c' hs :: rows intE hs (ixsV rs) :: L) := by
  subst hn
  refine CallS.ent ?_
  refine CallS.enter Try.func104 rfl rfl rfl rfl rfl ?_
  refine J.seq rfl ?_
  refine J.region rfl ?_
  refine JO.eff rfl rfl rfl (Eff.box (cs := [_]) rfl rfl) ?_
  rintro _ _ ⟨b1, rfl, rfl⟩
  refine JO.pur rfl rfl rfl (Pur.assign rfl) ?_
  refine JO.pur rfl rfl rfl (Pur.assign rfl) ?_
  refine JO.nil ?_
  refine J.seq rfl ?_
  refine J.region rfl ?_
  refine JO.pur rfl rfl rfl (Pur.loadA rfl rfl rfl CellsIn.blk) ?_
  refine JO.eff rfl rfl rfl (Eff.call rfl (counts_ok (rs := rs) rfl)) ?_
  rintro _ _ ⟨a11, c11, rfl, rfl⟩
  refine JO.pur rfl rfl rfl (Pur.move rfl) ?_
  refine JO.pur rfl rfl rfl (Pur.extract rfl rfl) ?_
  refine JO.pur rfl rfl rfl (Pur.extract rfl rfl) ?_
  refine JO.setv (u' := .int .i64 (ctV rs)) 13 rfl rfl ?_
  refine JO.pur rfl rfl rfl (Pur.extract rfl rfl) ?_
  refine JO.setv (u' := .bool (decide (okD rs))) 14 rfl rfl ?_
  refine JO.pur rfl rfl rfl (Pur.assign rfl) ?_
  refine JO.pur rfl rfl rfl (Pur.assign rfl) ?_
  refine JO.pur rfl rfl rfl (Pur.assign rfl) ?_
  refine JO.nil ?_
  refine J.seq rfl ?_
  refine J.seq rfl ?_
  refine J.region rfl ?_
  refine JO.pur rfl rfl rfl (Pur.move rfl) ?_
  refine JO.pur rfl rfl rfl (Pur.not rfl) ?_
  refine JO.nil ?_
  refine J.splitB 16 rfl (fun h16 => ?_) (fun h16 => ?_)
  · try simp only [decide_eq_true_eq, decide_eq_false_iff_not, Bool.not_eq_true', Bool.not_eq_false', Bool.and_eq_true, Bool.or_eq_true, Bool.and_eq_false_iff, Bool.or_eq_false_iff, Option.isNone_some, Option.isSome_some, Option.isNone_none, Option.isSome_none, Int.not_lt, Int.not_le, beq_iff_eq, beq_eq_false_iff_ne, bne_iff_ne, ne_eq, Bool.not_not, Decidable.not_not] at h16
    have hbad : ¬ okD rs := by simpa using h16
    refine J.condT rfl rfl ?_
    refine J.seq rfl ?_
    refine J.region rfl ?_
    refine JO.pur rfl rfl rfl (Pur.assign rfl) ?_
    refine JO.pur rfl rfl rfl (Pur.assign rfl) ?_
    refine JO.nil ?_
    refine J.ret rfl rfl ?_
    refine ⟨_, _, ⟨none, 0, [], rfl, rfl⟩, ?_, fun h s => ?_⟩
    · unfold ixsV erD; rw [if_neg hbad, if_neg hbad]; rfl
    · unfold ixsV; rw [if_neg hbad]; exact sl_nil_new (rows_nil (SubC.out h s))
  · try simp only [decide_eq_true_eq, decide_eq_false_iff_not, Bool.not_eq_true', Bool.not_eq_false', Bool.and_eq_true, Bool.or_eq_true, Bool.and_eq_false_iff, Bool.or_eq_false_iff, Option.isNone_some, Option.isSome_some, Option.isNone_none, Option.isSome_none, Int.not_lt, Int.not_le, beq_iff_eq, beq_eq_false_iff_ne, bne_iff_ne, ne_eq, Bool.not_not, Decidable.not_not] at h16
    have hgood : okD rs := by simpa using h16
    have hls : lsD rs = rs.map cntI := by unfold lsD; rw [if_pos hgood]
    have hcv : ctV rs = ((cntD rs : Nat) : Int) := by unfold ctV; rw [if_pos hgood]
    have hc4 := hgood.2.2.2
    have hil := idx_len rs
    refine J.condF rfl rfl ?_
    refine J.skip rfl ?_
    refine J.seq rfl ?_
    refine J.region rfl ?_
    refine JO.pur rfl rfl rfl (Pur.assign rfl) ?_
    refine JO.nil ?_
    refine J.seq rfl ?_
    refine J.seq rfl ?_
    refine J.region rfl ?_
    refine JO.pur rfl rfl rfl (Pur.move rfl) ?_
    refine JO.pur rfl rfl rfl (Pur.move rfl) ?_
    refine JO.nil ?_
    refine J.block rfl ?_
    refine J.loopF (ι := Nat × Option Addr × Nat × List Hdr) (fun q => q.1 ≤ cntD rs ∧ q.2.2.2.length = q.1) (fun q => [(7, .slice q.2.1 q.1 q.2.2.1), (18, .int .i64 (q.1 : Int))]) [(1, _), (4, _), (17, _)] (fun q => sl hE q.2.1 q.2.2.1 q.2.2.2 :: rows intE q.2.2.2 ((idx rs).take q.1) :: sl intE a11 c11 (rs.map cntI) :: blk b1 (.cells #[.slice a rs.length cap] 24) :: L) (fun q => cntD rs - q.1) (0, none, 0, []) rfl (.cons rfl rfl (.cons rfl rfl (.cons rfl rfl .nil))) (.cons rfl rfl (.cons rfl rfl .nil)) (fun h s => by rw [hls] at s; have s2 := sl_nil_new (E := hE) (rows_nil (E := intE) s); dsimp only; rw [List.take_zero]; exact SubC.out (L := sl hE none 0 [] :: rows intE [] [] :: _) h s2) ⟨Nat.zero_le _, rfl⟩ ?_
    rintro ⟨k, a7, c7, hs⟩ ⟨hk, hhl⟩ ih0
    try dsimp only
    dsimp only at hk hhl
    refine J.seq rfl ?_
    refine J.region rfl ?_
    refine JO.pur rfl rfl rfl (Pur.lss rfl rfl) ?_
    refine JO.nil ?_
    refine J.seq rfl ?_
    refine J.splitB 19 rfl (fun h19 => ?_) (fun h19 => ?_)
    · try simp only [decide_eq_true_eq, decide_eq_false_iff_not, Bool.not_eq_true', Bool.not_eq_false', Bool.and_eq_true, Bool.or_eq_true, Bool.and_eq_false_iff, Bool.or_eq_false_iff, Option.isNone_some, Option.isSome_some, Option.isNone_none, Option.isSome_none, Int.not_lt, Int.not_le, beq_iff_eq, beq_eq_false_iff_ne, bne_iff_ne, ne_eq, Bool.not_not, Decidable.not_not] at h19
      have hkl : k < cntD rs := by omega
      have hap1 := take_get (ixD_get hkl)
      refine J.condT rfl rfl ?_
      refine J.skip rfl ?_
      refine J.seq rfl ?_
      refine J.block rfl ?_
      refine J.seq rfl ?_
      refine J.region rfl ?_
      refine JO.pur rfl rfl rfl (Pur.move rfl) ?_
      refine JO.pur rfl rfl rfl (Pur.assign rfl) ?_
      refine JO.nil ?_
      refine J.region rfl ?_
      refine JO.pur rfl rfl rfl (Pur.move rfl) ?_
      refine JO.pur rfl rfl rfl (Pur.loadA rfl rfl rfl CellsIn.blk) ?_
      refine JO.pur rfl rfl rfl (Pur.move rfl) ?_
      refine JO.pur rfl rfl rfl (Pur.move rfl) ?_
      refine JO.eff rfl rfl rfl (Eff.call rfl (index_ok (rs := rs) rfl (by first | rfl | (rw [hls, List.length_map])) hgood hkl)) ?_
      rintro _ _ ⟨a25, c25, rfl, rfl⟩
      refine JO.eff rfl rfl rfl (Eff.buildSlice hE [⟨a25, rs.length, c25⟩] rfl rfl rfl rfl rfl rfl rfl) ?_
      rintro _ _ ⟨b26, rfl, -, rfl⟩
      refine JO.eff rfl rfl rfl (Eff.append rfl rfl rfl rfl (by first | rfl | omega | (simp; done) | (simp; omega)) (by first | rfl | omega | (simp; done) | (simp; omega)) (by decide) (by simp; omega) (by simp; omega) (fun h => by cases h)) ?_
      rintro _ _ ⟨a27, c27, rfl, rfl⟩
      refine JO.pur rfl rfl rfl (Pur.assign rfl) ?_
      refine JO.nil ?_
      refine J.inBlock ?_
      refine J.region rfl ?_
      refine JO.pur rfl rfl rfl (Pur.add rfl rfl (wr64 (by omega))) ?_
      refine JO.pur rfl rfl rfl (Pur.move rfl) ?_
      refine JO.nil ?_
      exact J.weaken (.cons rfl (by show Value.slice a27 _ c27 = Value.slice a27 (k + 1) c27; rw [hhl]; rfl) (.cons rfl (congrArg (Value.int .i64) (by first | rfl | (dsimp only; omega))) (.cons rfl rfl (.cons rfl rfl (.cons rfl rfl .nil))))) (fun h s => by have s2 := snoc_row (E := intE) (a := a25) (n := rs.length) (cap := c25) (hs := hs) (xss := (idx rs).take k) (ixD_len hkl).symm s; rw [← hap1] at s2; exact SubC.out h s2) (ih0 (k + 1, a27, c27, hs ++ [⟨a25, rs.length, c25⟩]) ⟨by dsimp only; omega, by simp [hhl]⟩ (by dsimp only; omega))
    · try simp only [decide_eq_true_eq, decide_eq_false_iff_not, Bool.not_eq_true', Bool.not_eq_false', Bool.and_eq_true, Bool.or_eq_true, Bool.and_eq_false_iff, Bool.or_eq_false_iff, Option.isNone_some, Option.isSome_some, Option.isNone_none, Option.isSome_none, Int.not_lt, Int.not_le, beq_iff_eq, beq_eq_false_iff_ne, bne_iff_ne, ne_eq, Bool.not_not, Decidable.not_not] at h19
      have hke : k = cntD rs := by omega
      refine J.condF rfl rfl ?_
      refine J.exit rfl rfl ?_
      refine J.seq rfl ?_
      refine J.region rfl ?_
      refine JO.pur rfl rfl rfl (Pur.move rfl) ?_
      refine JO.pur rfl rfl rfl (Pur.assign rfl) ?_
      refine JO.pur rfl rfl rfl (Pur.assign rfl) ?_
      refine JO.nil ?_
      refine J.ret rfl rfl ?_
      have hv : ixsV rs = idx rs := by unfold ixsV; rw [if_pos hgood]
      refine ⟨_, _, ⟨a7, c7, hs, rfl, rfl⟩, by rw [hv, hil, ← hke]; unfold erD; rw [if_pos hgood]; rfl, fun h s => ?_⟩
      rw [hv]
      rw [hke, ← hil, List.take_length] at s
      exact SubC.out h s

end Go.Proofs.Ytnhippfllgnngaa
