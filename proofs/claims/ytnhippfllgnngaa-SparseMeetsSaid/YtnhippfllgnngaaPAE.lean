/-
  A part of the proof of the claim that this folder bears.
-/
import Derived.Test.YtnhippfllgnngaaPAD
/- The text SB3. -/
set_option linter.unusedVariables false
set_option linter.unusedSimpArgs false
set_option maxRecDepth 10000
namespace Go.Proofs.Ytnhippfllgnngaa
open Go Go.KK Dm

/-- What Place answers. -/
def plV (rs : List Rg) (x : List Int) : Int × Int := if ¬ okD rs then (0, 40) else if x.length ≠ rs.length then (0, 2) else match plD rs x with | some n => ((n : Int), 0) | none => (0, 5)
theorem plK_none {d : List Rg} {x : List Int} : ∀ {j k : Nat}, k ≤ j → plK d x k = none → plK d x j = none
  | 0, k, h, e => by rw [show k = 0 by omega] at e; exact e
  | j + 1, k, h, e => by
    by_cases he : k = j + 1
    · rw [← he]; exact e
    · have := plK_none (d := d) (x := x) (j := j) (k := k) (by omega) e
      unfold plK; rw [this]
theorem plK_lt {d : List Rg} (h : okRs d) {x : List Int} {k n : Nat} (hd : k ≤ d.length) (hx : k ≤ x.length) (e : plK d x k = some n) : n < cntD (d.take k) := by
  have := (plK_idx h (x := x) hd hx).1 e
  rw [← idx_len_take d k hd]; exact (List.getElem?_eq_some_iff.1 this).1
theorem cntD_take_le2 {rs : List Rg} (h0 : cntD rs ≠ 0) {k : Nat} (hk : k ≤ rs.length) : cntD (rs.take k) ≤ cntD rs := by
  have := cntD_take_le (rs := rs) (fun r hr => cnt_pos hr h0) (j := rs.length) (k := k) hk (Nat.le_refl _)
  rwa [List.take_length] at this
/-- What Has answers. -/
def hasV (rs : List Rg) (x : List Int) : Bool × Int := if ¬ okD rs then (false, 40) else if x.length ≠ rs.length then (false, 2) else ((plD rs x).isSome, 0)
/-- What Ith answers. -/
def ithV (rs : List Rg) (i : Int) : List Int × Int := if ¬ okD rs then ([], 40) else if i < 0 ∨ (cntD rs : Int) ≤ i then ([], 2) else (ixD rs i.toNat, 0)
/-- What Indexes answers. -/
def ixsV (rs : List Rg) : List (List Int) := if okD rs then idx rs else []
theorem plD_some {rs : List Rg} {x : List Int} (hl : x.length = rs.length) : plD rs x = plK rs x rs.length := by unfold plD; rw [if_pos hl]
theorem cntD_mono3 {rs : List Rg} (h : okRs rs) {k : Nat} (hk : k ≤ rs.length) (h3 : rs.length ≤ 3) : (cntD (rs.take k) : Nat) ≤ 2000001 ^ k := by
  induction k with
  | zero => rw [List.take_zero]; decide
  | succ k ih =>
    rw [cntD_take hk, Nat.pow_succ]
    exact Nat.mul_le_mul (ih (by omega)) (cnt_le (h _ (getD_mem hk)))
theorem d_Place {L : List Asn} {a b : Option Addr} {n cap m cq : Nat} {rs : List Rg} {x : List Int} [SlIn rgE L a rs] [SlIn intE L b x] (hn : n = rs.length) (hm : m = x.length) :
    CallS Try.prog 88 [.agg #[.slice a n cap], .slice b m cq].toArray L (fun v M => v = .tuple #[.int .i64 (plV rs x).1, .int .i64 (plV rs x).2] ∧ M = L) := by
  subst hn
  subst hm
  refine CallS.ent ?_
  refine CallS.enter Try.func88 rfl rfl rfl rfl rfl ?_
  refine J.seq rfl ?_
  refine J.region rfl ?_
  refine JO.eff rfl rfl rfl (Eff.box (cs := [_]) rfl rfl) ?_
  rintro _ _ ⟨b2, rfl, rfl⟩
  refine JO.pur rfl rfl rfl (Pur.assign rfl) ?_
  refine JO.pur rfl rfl rfl (Pur.assign rfl) ?_
  refine JO.nil ?_
  refine J.seq rfl ?_
  refine J.region rfl ?_
  refine JO.pur rfl rfl rfl (Pur.loadA rfl rfl rfl CellsIn.blk) ?_
  refine JO.eff rfl rfl rfl (Eff.call rfl (counts_ok (rs := rs) rfl)) ?_
  rintro _ _ ⟨a16, c16, rfl, rfl⟩
  refine JO.pur rfl rfl rfl (Pur.move rfl) ?_
  refine JO.pur rfl rfl rfl (Pur.extract rfl rfl) ?_
  refine JO.pur rfl rfl rfl (Pur.extract rfl rfl) ?_
  refine JO.pur rfl rfl rfl (Pur.extract rfl rfl) ?_
  refine JO.setv (u' := .bool (decide (okD rs))) 19 rfl rfl ?_
  refine JO.pur rfl rfl rfl (Pur.assign rfl) ?_
  refine JO.pur rfl rfl rfl (Pur.assign rfl) ?_
  refine JO.pur rfl rfl rfl (Pur.assign rfl) ?_
  refine JO.nil ?_
  refine J.seq rfl ?_
  refine J.block rfl ?_
  refine J.seq rfl ?_
  refine J.region rfl ?_
  refine JO.pur rfl rfl rfl (Pur.move rfl) ?_
  refine JO.pur rfl rfl rfl (Pur.not rfl) ?_
  refine JO.setv (u' := .bool (!decide (okD rs))) 22 rfl rfl ?_
  refine JO.pur rfl rfl rfl (Pur.assign rfl) ?_
  refine JO.nil ?_
  refine J.splitB 20 rfl (fun h20 => ?_) (fun h20 => ?_)
  · try simp only [decide_eq_true_eq, decide_eq_false_iff_not, Bool.not_eq_true', Bool.not_eq_false', Bool.and_eq_true, Bool.or_eq_true, Bool.and_eq_false_iff, Bool.or_eq_false_iff, Option.isNone_some, Option.isSome_some, Option.isNone_none, Option.isSome_none, Int.not_lt, Int.not_le, beq_iff_eq, beq_eq_false_iff_ne, bne_iff_ne, ne_eq, Bool.not_not, Decidable.not_not] at h20
    have hbad : ¬ okD rs := by simpa using h20
    refine J.condT rfl rfl ?_
    refine J.seq rfl ?_
    refine J.region rfl ?_
    refine JO.pur rfl rfl rfl (Pur.assign rfl) ?_
    refine JO.pur rfl rfl rfl (Pur.assign rfl) ?_
    refine JO.nil ?_
    refine J.ret rfl rfl ?_
    refine ⟨_, _, ⟨rfl, rfl⟩, ?_, SubC.out⟩
    unfold plV; rw [if_pos hbad]; rfl
  · try simp only [decide_eq_true_eq, decide_eq_false_iff_not, Bool.not_eq_true', Bool.not_eq_false', Bool.and_eq_true, Bool.or_eq_true, Bool.and_eq_false_iff, Bool.or_eq_false_iff, Option.isNone_some, Option.isSome_some, Option.isNone_none, Option.isSome_none, Int.not_lt, Int.not_le, beq_iff_eq, beq_eq_false_iff_ne, bne_iff_ne, ne_eq, Bool.not_not, Decidable.not_not] at h20
    have hgood : okD rs := by simpa using h20
    have hls : lsD rs = rs.map cntI := by unfold lsD; rw [if_pos hgood]
    have hll : (lsD rs).length = rs.length := by rw [hls]; simp
    have hl3 := hgood.2.1
    have hc4 := hgood.2.2.2
    refine J.condF rfl rfl ?_
    refine J.seq rfl ?_
    refine J.region rfl ?_
    refine JO.pur rfl rfl rfl (Pur.move rfl) ?_
    refine JO.pur rfl rfl rfl (Pur.len rfl) ?_
    refine JO.pur rfl rfl rfl (Pur.move rfl) ?_
    refine JO.pur rfl rfl rfl (Pur.len rfl) ?_
    refine JO.pur rfl rfl rfl (Pur.neqI rfl rfl) ?_
    refine JO.pur rfl rfl rfl (Pur.assign rfl) ?_
    refine JO.nil ?_
    refine J.splitB 23 rfl (fun h23 => ?_) (fun h23 => ?_)
    · try simp only [decide_eq_true_eq, decide_eq_false_iff_not, Bool.not_eq_true', Bool.not_eq_false', Bool.and_eq_true, Bool.or_eq_true, Bool.and_eq_false_iff, Bool.or_eq_false_iff, Option.isNone_some, Option.isSome_some, Option.isNone_none, Option.isSome_none, Int.not_lt, Int.not_le, beq_iff_eq, beq_eq_false_iff_ne, bne_iff_ne, ne_eq, Bool.not_not, Decidable.not_not] at h23
      have hle : x.length ≠ rs.length := by rw [hll] at h23; omega
      refine J.condT rfl rfl ?_
      refine J.seq rfl ?_
      refine J.region rfl ?_
      refine JO.pur rfl rfl rfl (Pur.assign rfl) ?_
      refine JO.pur rfl rfl rfl (Pur.assign rfl) ?_
      refine JO.nil ?_
      refine J.ret rfl rfl ?_
      refine ⟨_, _, ⟨rfl, rfl⟩, ?_, SubC.out⟩
      unfold plV; rw [if_neg (not_not_intro hgood), if_pos hle]; rfl
    · try simp only [decide_eq_true_eq, decide_eq_false_iff_not, Bool.not_eq_true', Bool.not_eq_false', Bool.and_eq_true, Bool.or_eq_true, Bool.and_eq_false_iff, Bool.or_eq_false_iff, Option.isNone_some, Option.isSome_some, Option.isNone_none, Option.isSome_none, Int.not_lt, Int.not_le, beq_iff_eq, beq_eq_false_iff_ne, bne_iff_ne, ne_eq, Bool.not_not, Decidable.not_not] at h23
      have hle : x.length = rs.length := by rw [hll] at h23; omega
      refine J.condF rfl rfl ?_
      refine J.skip rfl ?_
      refine J.inBlock ?_
      refine J.seq rfl ?_
      refine J.region rfl ?_
      refine JO.pur rfl rfl rfl (Pur.assign rfl) ?_
      refine JO.nil ?_
      refine J.seq rfl ?_
      refine J.seq rfl ?_
      refine J.region rfl ?_
      refine JO.pur rfl rfl rfl (Pur.fieldAddr rfl) ?_
      refine JO.pur rfl rfl rfl (Pur.load rfl (CellIn.blk rfl)) ?_
      refine JO.pur rfl rfl rfl (Pur.len rfl) ?_
      refine JO.pur rfl rfl rfl (Pur.move rfl) ?_
      refine JO.nil ?_
      refine J.block rfl ?_
      refine J.loopF (ι := Nat × Nat) (fun q => q.1 ≤ rs.length ∧ plK rs x q.1 = some q.2) (fun q => [(9, .int .i64 (q.2 : Int)), (32, .int .i64 (q.1 : Int))]) [(1, _), (6, _), (30, _), (31, _)] (fun q => sl intE a16 c16 (lsD rs) :: blk b2 (.cells #[.slice a rs.length cap] 24) :: L) (fun q => rs.length - q.1) (0, 0) rfl (.cons rfl rfl (.cons rfl rfl (.cons rfl rfl (.cons rfl rfl .nil)))) (.cons rfl rfl (.cons rfl rfl .nil)) (by first | exact fun _ h => h | exact SubC.out | (dsimp only; exact SubC.out)) ⟨Nat.zero_le _, rfl⟩ ?_
      rintro ⟨k, at1⟩ ⟨hk, hat⟩ ih0
      try dsimp only
      dsimp only at hk hat
      refine J.seq rfl ?_
      refine J.region rfl ?_
      refine JO.pur rfl rfl rfl (Pur.lss rfl rfl) ?_
      refine JO.nil ?_
      refine J.seq rfl ?_
      refine J.splitB 33 rfl (fun h33 => ?_) (fun h33 => ?_)
      · try simp only [decide_eq_true_eq, decide_eq_false_iff_not, Bool.not_eq_true', Bool.not_eq_false', Bool.and_eq_true, Bool.or_eq_true, Bool.and_eq_false_iff, Bool.or_eq_false_iff, Option.isNone_some, Option.isSome_some, Option.isNone_none, Option.isSome_none, Int.not_lt, Int.not_le, beq_iff_eq, beq_eq_false_iff_ne, bne_iff_ne, ne_eq, Bool.not_not, Decidable.not_not] at h33
        have hkl : k < rs.length := by omega
        have hlt := plK_lt hgood.2.2.1 (x := x) hk (by omega) hat
        have hxk : rs[k]? = some (rs.getD k default) := by rw [List.getD_eq_getElem?_getD, List.getElem?_eq_getElem hkl]; rfl
        have hmem := getD_mem (d := rs) (k := k) hkl
        have hct := cntD_take hkl
        have hpk : ∀ u, plR (rs.getD k default) (x.getD k default) = u → plK rs x (k + 1) = u.map (fun i => at1 * cnt (rs.getD k default) + i) := fun u hu => by
          unfold plK; rw [hat, hu]; cases u <;> rfl
        have hcm := cntD_mono3 hgood.2.2.1 hk hl3
        generalize hrr : rs.getD k default = r at *
        have hor := hgood.2.2.1 r hmem
        have hce := cnt_eq hor
        have hcl := cnt_le hor
        have hcg : (lsD rs)[k]? = some ((cnt r : Nat) : Int) := by rw [hls, List.getElem?_map, hxk, hce]; rfl
        have hxx : x[k]? = some (x.getD k default) := by rw [List.getD_eq_getElem?_getD, List.getElem?_eq_getElem (by omega)]; rfl
        generalize hxd : x.getD k default = y at *
        have hcm2 : cntD (rs.take k) ≤ 4096 ∨ cntD rs = 0 := by
          by_cases h0 : cntD rs = 0
          · exact .inr h0
          · exact .inl (Nat.le_trans (cntD_take_le2 h0 hk) hc4)
        refine J.condT rfl rfl ?_
        refine J.skip rfl ?_
        refine J.seq rfl ?_
        refine J.block rfl ?_
        refine J.seq rfl ?_
        refine J.region rfl ?_
        refine JO.pur rfl rfl rfl (Pur.move rfl) ?_
        refine JO.pur rfl rfl rfl (Pur.idx rfl rfl rfl (by first | rfl | (simp; done) | omega) rfl (by omega)) ?_
        refine JO.pur rfl rfl rfl (Pur.loadA rfl rfl rfl (CellsIn.el rfl hxk)) ?_
        refine JO.setv (u' := rgV r) 36 rfl rfl ?_
        refine JO.eff rfl rfl rfl (Eff.alloc (cs := [_, _, _]) rfl) ?_
        rintro _ _ ⟨b11, rfl, rfl⟩
        refine JO.pur rfl rfl rfl (Pur.assign rfl) ?_
        refine JO.effN rfl rfl (Eff.storeBA (cs' := [_, _, _]) rfl rfl (by rfl) (by rfl) (by rfl)) ?_
        rintro _ _ ⟨rfl, rfl⟩
        refine JO.nil ?_
        refine J.seq rfl ?_
        refine J.quiet rfl Try.mixed (by kernel_rfl) ?_
        refine JQ.pur rfl rfl rfl (Pur.loadA rfl rfl rfl CellsIn.blk) ?_
        refine JQ.pur rfl rfl rfl (Pur.move rfl) ?_
        refine JQ.pur rfl rfl rfl (Pur.move rfl) ?_
        refine JQ.pur rfl rfl rfl (Pur.idx rfl rfl rfl (by first | rfl | (simp; done) | omega) rfl (by omega)) ?_
        refine JQ.pur rfl rfl rfl (Pur.load rfl (CellIn.el0 rfl hxx rfl)) ?_
        refine JQ.setv (u' := .int .i64 y) 42 rfl rfl ?_
        refine JQ.callE rfl rfl rfl (span_Place hor) ?_
        refine JQ.pur rfl rfl rfl (Pur.move rfl) ?_
        refine JQ.pur rfl rfl rfl (Pur.extract rfl rfl) ?_
        refine JQ.setv (u' := .int .i64 (((plR r y).getD 0 : Nat) : Int)) 44 rfl rfl ?_
        refine JQ.pur rfl rfl rfl (Pur.extract rfl rfl) ?_
        refine JQ.pur rfl rfl rfl (Pur.assign rfl) ?_
        refine JQ.pur rfl rfl rfl (Pur.assign rfl) ?_
        refine JQ.nil ?_
        refine J.seq rfl ?_
        refine J.seq rfl ?_
        refine J.region rfl ?_
        refine JO.pur rfl rfl rfl (Pur.move rfl) ?_
        refine JO.pur rfl rfl rfl (Pur.neqI rfl rfl) ?_
        refine JO.nil ?_
        refine J.splitB 47 rfl (fun h47 => ?_) (fun h47 => ?_)
        · try simp only [decide_eq_true_eq, decide_eq_false_iff_not, Bool.not_eq_true', Bool.not_eq_false', Bool.and_eq_true, Bool.or_eq_true, Bool.and_eq_false_iff, Bool.or_eq_false_iff, Option.isNone_some, Option.isSome_some, Option.isNone_none, Option.isSome_none, Int.not_lt, Int.not_le, beq_iff_eq, beq_eq_false_iff_ne, bne_iff_ne, ne_eq, Bool.not_not, Decidable.not_not] at h47
          have hp : plR r y = none := by
            cases e : plR r y with
            | none => rfl
            | some i => rw [e] at h47; exact absurd rfl h47
          have hpn := plK_none (d := rs) (x := x) (j := rs.length) (k := k + 1) hkl (hpk none hp)
          refine J.condT rfl rfl ?_
          refine J.seq rfl ?_
          refine J.region rfl ?_
          refine JO.pur rfl rfl rfl (Pur.assign rfl) ?_
          refine JO.pur rfl rfl rfl (Pur.assign rfl) ?_
          refine JO.nil ?_
          refine J.ret rfl rfl ?_
          refine ⟨_, _, ⟨rfl, rfl⟩, ?_, SubC.out⟩
          unfold plV; rw [if_neg (not_not_intro hgood), if_neg (not_not_intro hle), plD_some hle, hpn]; rfl
        · try simp only [decide_eq_true_eq, decide_eq_false_iff_not, Bool.not_eq_true', Bool.not_eq_false', Bool.and_eq_true, Bool.or_eq_true, Bool.and_eq_false_iff, Bool.or_eq_false_iff, Option.isNone_some, Option.isSome_some, Option.isNone_none, Option.isSome_none, Int.not_lt, Int.not_le, beq_iff_eq, beq_eq_false_iff_ne, bne_iff_ne, ne_eq, Bool.not_not, Decidable.not_not] at h47
          obtain ⟨z, hp⟩ : ∃ z, plR r y = some z := by
            cases e : plR r y with
            | none => rw [e] at h47; exact absurd h47 (by decide)
            | some i => exact ⟨i, rfl⟩
          have hat2 := hpk (some z) hp
          have hzl := plR_lt hor hp
          have hlt2 := plK_lt hgood.2.2.1 (x := x) (k := k + 1) hkl (by omega) hat2
          have hcm3 := cntD_mono3 hgood.2.2.1 (k := k + 1) hkl hl3
          have hb1 : at1 * cnt r + z < 9000000000000000000 := by
            have : (2000001 : Nat) ^ (k + 1) ≤ 2000001 ^ 3 := Nat.pow_le_pow_right (by decide) (by omega)
            have : (2000001 : Nat) ^ 3 = 8000012000006000001 := by decide
            have hlt3 : at1 * cnt r + z < cntD (rs.take (k + 1)) := hlt2
            omega
          have hsum : ((at1 : Nat) : Int) * ((cnt r : Nat) : Int) + ((z : Nat) : Int) = ((at1 * cnt r + z : Nat) : Int) := by simp
          have hmm : ((at1 : Nat) : Int) * ((cnt r : Nat) : Int) = ((at1 * cnt r : Nat) : Int) := by simp
          refine J.condF rfl rfl ?_
          refine J.skip rfl ?_
          refine J.region rfl ?_
          refine JO.pur rfl rfl rfl (Pur.move rfl) ?_
          refine JO.pur rfl rfl rfl (Pur.move rfl) ?_
          refine JO.pur rfl rfl rfl (Pur.move rfl) ?_
          refine JO.pur rfl rfl rfl (Pur.idx rfl rfl rfl (by first | rfl | (simp; done) | omega) rfl (by omega)) ?_
          refine JO.pur rfl rfl rfl (Pur.load rfl (CellIn.el0 rfl hcg rfl)) ?_
          refine JO.pur rfl rfl rfl (Pur.mul rfl rfl (wr64 (by rw [hmm]; omega))) ?_
          refine JO.setv (u' := .int .i64 ((z : Nat) : Int)) 12 rfl (by rw [hp]; rfl) ?_
          refine JO.pur rfl rfl rfl (Pur.move rfl) ?_
          refine JO.pur rfl rfl rfl (Pur.add rfl rfl (wr64 (by rw [hsum]; omega))) ?_
          refine JO.pur rfl rfl rfl (Pur.assign rfl) ?_
          refine JO.nil ?_
          refine J.inBlock ?_
          refine J.region rfl ?_
          refine JO.pur rfl rfl rfl (Pur.add rfl rfl (wr64 (by omega))) ?_
          refine JO.pur rfl rfl rfl (Pur.move rfl) ?_
          refine JO.nil ?_
          exact J.weaken (.cons rfl (congrArg (Value.int .i64) hsum) (.cons rfl (congrArg (Value.int .i64) (by first | rfl | (dsimp only; omega))) (.cons rfl rfl (.cons rfl rfl (.cons rfl rfl (.cons rfl rfl .nil)))))) (by first | exact fun _ h => h | exact SubC.out | (dsimp only; exact SubC.out)) (ih0 (k + 1, at1 * cnt r + z) ⟨by dsimp only; omega, hat2⟩ (by dsimp only; omega))
      · try simp only [decide_eq_true_eq, decide_eq_false_iff_not, Bool.not_eq_true', Bool.not_eq_false', Bool.and_eq_true, Bool.or_eq_true, Bool.and_eq_false_iff, Bool.or_eq_false_iff, Option.isNone_some, Option.isSome_some, Option.isNone_none, Option.isSome_none, Int.not_lt, Int.not_le, beq_iff_eq, beq_eq_false_iff_ne, bne_iff_ne, ne_eq, Bool.not_not, Decidable.not_not] at h33
        have hke : k = rs.length := by omega
        rw [hke] at hat
        refine J.condF rfl rfl ?_
        refine J.exit rfl rfl ?_
        refine J.seq rfl ?_
        refine J.region rfl ?_
        refine JO.pur rfl rfl rfl (Pur.move rfl) ?_
        refine JO.pur rfl rfl rfl (Pur.assign rfl) ?_
        refine JO.pur rfl rfl rfl (Pur.assign rfl) ?_
        refine JO.nil ?_
        refine J.ret rfl rfl ?_
        refine ⟨_, _, ⟨rfl, rfl⟩, ?_, SubC.out⟩
        unfold plV; rw [if_neg (not_not_intro hgood), if_neg (not_not_intro hle), plD_some hle, hat]; rfl

end Go.Proofs.Ytnhippfllgnngaa

/- The text SC1. -/
set_option linter.unusedVariables false
set_option linter.unusedSimpArgs false
set_option maxRecDepth 10000
namespace Go.Proofs.Ytnhippfllgnngaa
open Go Go.KK Dm

def capN (n : Nat) : Nat := min n 1099511627776
theorem cap_mul (a c : Nat) : min (capN a * c) 1099511627776 = capN (a * c) := by
  unfold capN
  by_cases h : a ≤ 1099511627776
  · rw [show min a 1099511627776 = a by omega]
  · rw [show min a 1099511627776 = 1099511627776 by omega]
    cases c with
    | zero => simp
    | succ c =>
      have h1 : 1099511627776 * 1 ≤ 1099511627776 * (c + 1) := Nat.mul_le_mul_left _ (by omega)
      have h2 : a * 1 ≤ a * (c + 1) := Nat.mul_le_mul_left _ (by omega)
      omega
theorem cap_le (a : Nat) : capN a ≤ 1099511627776 := by unfold capN; omega
theorem zero_step (a c : Nat) : decide (a * c = 0) = (decide (a = 0) || decide (c = 0)) := by
  rw [Bool.eq_iff_iff]; simp [Nat.mul_eq_zero]
theorem r_Valid {L : List Asn} {a : Option Addr} {n cap : Nat} {rs : List Rg} [SlIn rgE L a rs] (hn : n = rs.length) :
    CallS Try.prog 89 [.agg #[.slice a n cap]].toArray L (fun v M => v = .bool (decide (okD rs)) ∧ M = L) := by
  subst hn
  refine CallS.ent ?_
  refine CallS.enter Try.func89 rfl rfl rfl rfl rfl ?_
  refine J.seq rfl ?_
  refine J.region rfl ?_
  refine JO.eff rfl rfl rfl (Eff.box (cs := [_]) rfl rfl) ?_
  rintro _ _ ⟨b1, rfl, rfl⟩
  refine JO.pur rfl rfl rfl (Pur.assign rfl) ?_
  refine JO.nil ?_
  refine J.seq rfl ?_
  refine J.seq rfl ?_
  refine J.region rfl ?_
  refine JO.pur rfl rfl rfl (Pur.fieldAddr rfl) ?_
  refine JO.pur rfl rfl rfl (Pur.load rfl (CellIn.blk rfl)) ?_
  refine JO.pur rfl rfl rfl (Pur.len rfl) ?_
  refine JO.pur rfl rfl rfl (Pur.lss rfl rfl) ?_
  refine JO.pur rfl rfl rfl (Pur.move rfl) ?_
  refine JO.splitB 12 rfl (fun h12 => ?_) (fun h12 => ?_)
  · try simp only [decide_eq_true_eq, decide_eq_false_iff_not, Bool.not_eq_true', Bool.not_eq_false', Bool.and_eq_true, Bool.or_eq_true, Bool.and_eq_false_iff, Bool.or_eq_false_iff, Option.isNone_some, Option.isSome_some, Option.isNone_none, Option.isSome_none, Int.not_lt, Int.not_le, beq_iff_eq, beq_eq_false_iff_ne, bne_iff_ne, ne_eq, Bool.not_not, Decidable.not_not] at h12
    refine JO.no rfl rfl rfl ?_
    refine JO.no rfl rfl rfl ?_
    refine JO.no rfl rfl rfl ?_
    refine JO.no rfl rfl rfl ?_
    refine JO.pur rfl rfl rfl (Pur.pickT rfl rfl) ?_
    refine JO.nil ?_
    refine J.condT rfl rfl ?_
    refine J.seq rfl ?_
    refine J.region rfl ?_
    refine JO.pur rfl rfl rfl (Pur.assign rfl) ?_
    refine JO.nil ?_
    refine J.ret rfl rfl ?_
    have hbad : ¬ okD rs := fun ho => by have h1 := ho.1; have h2 := ho.2.1; omega
    refine ⟨_, _, ⟨rfl, rfl⟩, congrArg Value.bool ((decide_eq_false hbad).symm), SubC.out⟩
  · try simp only [decide_eq_true_eq, decide_eq_false_iff_not, Bool.not_eq_true', Bool.not_eq_false', Bool.and_eq_true, Bool.or_eq_true, Bool.and_eq_false_iff, Bool.or_eq_false_iff, Option.isNone_some, Option.isSome_some, Option.isNone_none, Option.isSome_none, Int.not_lt, Int.not_le, beq_iff_eq, beq_eq_false_iff_ne, bne_iff_ne, ne_eq, Bool.not_not, Decidable.not_not] at h12
    refine JO.pur rfl rfl rfl (Pur.fieldAddr rfl) ?_
    refine JO.pur rfl rfl rfl (Pur.load rfl (CellIn.blk rfl)) ?_
    refine JO.pur rfl rfl rfl (Pur.len rfl) ?_
    refine JO.pur rfl rfl rfl (Pur.gtr rfl rfl) ?_
    refine JO.pur rfl rfl rfl (Pur.pickF rfl rfl) ?_
    refine JO.nil ?_
    refine J.splitB 17 rfl (fun h17 => ?_) (fun h17 => ?_)
    · try simp only [decide_eq_true_eq, decide_eq_false_iff_not, Bool.not_eq_true', Bool.not_eq_false', Bool.and_eq_true, Bool.or_eq_true, Bool.and_eq_false_iff, Bool.or_eq_false_iff, Option.isNone_some, Option.isSome_some, Option.isNone_none, Option.isSome_none, Int.not_lt, Int.not_le, beq_iff_eq, beq_eq_false_iff_ne, bne_iff_ne, ne_eq, Bool.not_not, Decidable.not_not] at h17
      refine J.condT rfl rfl ?_
      refine J.seq rfl ?_
      refine J.region rfl ?_
      refine JO.pur rfl rfl rfl (Pur.assign rfl) ?_
      refine JO.nil ?_
      refine J.ret rfl rfl ?_
      have hbad : ¬ okD rs := fun ho => by have h1 := ho.1; have h2 := ho.2.1; omega
      refine ⟨_, _, ⟨rfl, rfl⟩, congrArg Value.bool ((decide_eq_false hbad).symm), SubC.out⟩
    · try simp only [decide_eq_true_eq, decide_eq_false_iff_not, Bool.not_eq_true', Bool.not_eq_false', Bool.and_eq_true, Bool.or_eq_true, Bool.and_eq_false_iff, Bool.or_eq_false_iff, Option.isNone_some, Option.isSome_some, Option.isNone_none, Option.isSome_none, Int.not_lt, Int.not_le, beq_iff_eq, beq_eq_false_iff_ne, bne_iff_ne, ne_eq, Bool.not_not, Decidable.not_not] at h17
      have hl1 : 1 ≤ rs.length := by omega
      have hl3 : rs.length ≤ 3 := by omega
      refine J.condF rfl rfl ?_
      refine J.skip rfl ?_
      refine J.seq rfl ?_
      refine J.region rfl ?_
      refine JO.pur rfl rfl rfl (Pur.assign rfl) ?_
      refine JO.pur rfl rfl rfl (Pur.assign rfl) ?_
      refine JO.nil ?_
      refine J.seq rfl ?_
      refine J.seq rfl ?_
      refine J.region rfl ?_
      refine JO.pur rfl rfl rfl (Pur.assign rfl) ?_
      refine JO.nil ?_
      refine J.block rfl ?_
      refine J.loopF (ι := Nat) (fun q => q ≤ rs.length ∧ ∀ r ∈ rs.take q, okR r) (fun q => [(3, .int .i64 ((capN (cntD (rs.take q)) : Nat) : Int)), (4, .bool (decide (cntD (rs.take q) = 0))), (5, .int .i64 (q : Int))]) [(1, _)] (fun q => blk b1 (.cells #[.slice a rs.length cap] 24) :: L) (fun q => rs.length - q) 0 rfl (.cons rfl rfl .nil) (.cons rfl rfl (.cons rfl rfl (.cons rfl rfl .nil))) (by first | exact fun _ h => h | exact SubC.out | (dsimp only; exact SubC.out)) ⟨Nat.zero_le _, by simp⟩ ?_
      rintro k ⟨hk, hok⟩ ih0
      try dsimp only
      refine J.seq rfl ?_
      refine J.seq rfl ?_
      refine J.region rfl ?_
      refine JO.pur rfl rfl rfl (Pur.move rfl) ?_
      refine JO.pur rfl rfl rfl (Pur.fieldAddr rfl) ?_
      refine JO.pur rfl rfl rfl (Pur.load rfl (CellIn.blk rfl)) ?_
      refine JO.pur rfl rfl rfl (Pur.len rfl) ?_
      refine JO.pur rfl rfl rfl (Pur.lss rfl rfl) ?_
      refine JO.nil ?_
      refine J.splitB 22 rfl (fun h22 => ?_) (fun h22 => ?_)
      · try simp only [decide_eq_true_eq, decide_eq_false_iff_not, Bool.not_eq_true', Bool.not_eq_false', Bool.and_eq_true, Bool.or_eq_true, Bool.and_eq_false_iff, Bool.or_eq_false_iff, Option.isNone_some, Option.isSome_some, Option.isNone_none, Option.isSome_none, Int.not_lt, Int.not_le, beq_iff_eq, beq_eq_false_iff_ne, bne_iff_ne, ne_eq, Bool.not_not, Decidable.not_not] at h22
        have hkl : k < rs.length := by omega
        have hxk : rs[k]? = some (rs.getD k default) := by rw [List.getD_eq_getElem?_getD, List.getElem?_eq_getElem hkl]; rfl
        have hct := cntD_take hkl
        have hmem := getD_mem (d := rs) (k := k) hkl
        have hstep := take_snoc hkl
        generalize hrr : rs.getD k default = r at *
        have hcl := cap_le (cntD (rs.take k))
        refine J.condT rfl rfl ?_
        refine J.skip rfl ?_
        refine J.seq rfl ?_
        refine J.block rfl ?_
        refine J.seq rfl ?_
        refine J.region rfl ?_
        refine JO.pur rfl rfl rfl (Pur.fieldAddr rfl) ?_
        refine JO.pur rfl rfl rfl (Pur.load rfl (CellIn.blk rfl)) ?_
        refine JO.pur rfl rfl rfl (Pur.move rfl) ?_
        refine JO.pur rfl rfl rfl (Pur.idx rfl rfl rfl (by first | rfl | (simp; done) | omega) rfl (by omega)) ?_
        refine JO.pur rfl rfl rfl (Pur.loadA rfl rfl rfl (CellsIn.el rfl hxk)) ?_
        refine JO.setv (u' := rgV r) 30 rfl rfl ?_
        refine JO.effR rfl rfl rfl (Eff.call rfl (r3_Count (r := r))) ?_
        refine JO.pur rfl rfl rfl (Pur.move rfl) ?_
        refine JO.pur rfl rfl rfl (Pur.extract rfl rfl) ?_
        refine JO.setv (u' := .int .i64 (if okR r then cntI r else 0)) 32 rfl rfl ?_
        refine JO.pur rfl rfl rfl (Pur.extract rfl rfl) ?_
        refine JO.pur rfl rfl rfl (Pur.assign rfl) ?_
        refine JO.pur rfl rfl rfl (Pur.assign rfl) ?_
        refine JO.nil ?_
        refine J.seq rfl ?_
        refine J.seq rfl ?_
        refine J.region rfl ?_
        refine JO.pur rfl rfl rfl (Pur.move rfl) ?_
        refine JO.pur rfl rfl rfl (Pur.neqI rfl rfl) ?_
        refine JO.nil ?_
        refine J.splitB 35 rfl (fun h35 => ?_) (fun h35 => ?_)
        · try simp only [decide_eq_true_eq, decide_eq_false_iff_not, Bool.not_eq_true', Bool.not_eq_false', Bool.and_eq_true, Bool.or_eq_true, Bool.and_eq_false_iff, Bool.or_eq_false_iff, Option.isNone_some, Option.isSome_some, Option.isNone_none, Option.isSome_none, Int.not_lt, Int.not_le, beq_iff_eq, beq_eq_false_iff_ne, bne_iff_ne, ne_eq, Bool.not_not, Decidable.not_not] at h35
          have hnr : ¬ okR r := fun ho => h35 (if_pos ho)
          have hbad : ¬ okD rs := fun ho => hnr (ho.2.2.1 r (List.mem_of_getElem? hxk))
          refine J.condT rfl rfl ?_
          refine J.seq rfl ?_
          refine J.region rfl ?_
          refine JO.pur rfl rfl rfl (Pur.assign rfl) ?_
          refine JO.nil ?_
          refine J.ret rfl rfl ?_
          refine ⟨_, _, ⟨rfl, rfl⟩, congrArg Value.bool ((decide_eq_false hbad).symm), SubC.out⟩
        · try simp only [decide_eq_true_eq, decide_eq_false_iff_not, Bool.not_eq_true', Bool.not_eq_false', Bool.and_eq_true, Bool.or_eq_true, Bool.and_eq_false_iff, Bool.or_eq_false_iff, Option.isNone_some, Option.isSome_some, Option.isNone_none, Option.isSome_none, Int.not_lt, Int.not_le, beq_iff_eq, beq_eq_false_iff_ne, bne_iff_ne, ne_eq, Bool.not_not, Decidable.not_not] at h35
          have hor : okR r := by
            by_cases ho : okR r
            · exact ho
            · rw [if_neg ho] at h35; exact absurd h35 (by decide)
          have hok2 : ∀ q ∈ rs.take (k + 1), okR q := fun q hq => by
            rw [hstep] at hq
            rcases List.mem_append.1 hq with hq | hq
            · exact hok q hq
            · simp only [List.mem_singleton] at hq; subst hq; exact hor
          have hce := cnt_eq hor
          have hcll := cnt_le hor
          refine J.setv (u' := .int .i64 ((cnt r : Nat) : Int)) 6 rfl (congrArg (Value.int .i64) (by rw [if_pos hor, hce])) ?_
          have hmm : ((capN (cntD (rs.take k)) : Nat) : Int) * ((cnt r : Nat) : Int) = ((capN (cntD (rs.take k)) * cnt r : Nat) : Int) := by simp
          have hmb : capN (cntD (rs.take k)) * cnt r ≤ 1099511627776 * 2000001 := Nat.mul_le_mul hcl hcll
          have hcap : min (((capN (cntD (rs.take k)) : Nat) : Int) * ((cnt r : Nat) : Int)) 1099511627776 = ((capN (cntD (rs.take (k + 1))) : Nat) : Int) := by
            have := cap_mul (cntD (rs.take k)) (cnt r)
            rw [hct, ← this, hmm]; omega
          have hz0 := zero_step (cntD (rs.take k)) (cnt r)
          rw [← hct] at hz0
          refine J.condF rfl rfl ?_
          refine J.skip rfl ?_
          refine J.seq rfl ?_
          refine J.region rfl ?_
          refine JO.pur rfl rfl rfl (Pur.move rfl) ?_
          refine JO.pur rfl rfl rfl (Pur.move rfl) ?_
          refine JO.splitB 37 rfl (fun h37 => ?_) (fun h37 => ?_)
          · try simp only [decide_eq_true_eq, decide_eq_false_iff_not, Bool.not_eq_true', Bool.not_eq_false', Bool.and_eq_true, Bool.or_eq_true, Bool.and_eq_false_iff, Bool.or_eq_false_iff, Option.isNone_some, Option.isSome_some, Option.isNone_none, Option.isSome_none, Int.not_lt, Int.not_le, beq_iff_eq, beq_eq_false_iff_ne, bne_iff_ne, ne_eq, Bool.not_not, Decidable.not_not] at h37
            have hzz : true = decide (cntD (rs.take (k + 1)) = 0) := by rw [hz0, decide_eq_true h37]; rfl
            refine JO.no rfl rfl rfl ?_
            refine JO.no rfl rfl rfl ?_
            refine JO.pur rfl rfl rfl (Pur.pickT rfl rfl) ?_
            refine JO.pur rfl rfl rfl (Pur.assign rfl) ?_
            refine JO.nil ?_
            refine J.region rfl ?_
            refine JO.pur rfl rfl rfl (Pur.move rfl) ?_
            refine JO.pur rfl rfl rfl (Pur.move rfl) ?_
            refine JO.pur rfl rfl rfl (Pur.mul rfl rfl (wr64 (by rw [hmm]; omega))) ?_
            refine JO.pur rfl rfl rfl (Pur.min2 rfl rfl) ?_
            refine JO.pur rfl rfl rfl (Pur.assign rfl) ?_
            refine JO.nil ?_
            refine J.inBlock ?_
            refine J.region rfl ?_
            refine JO.pur rfl rfl rfl (Pur.move rfl) ?_
            refine JO.pur rfl rfl rfl (Pur.add rfl rfl (wr64 (by omega))) ?_
            refine JO.pur rfl rfl rfl (Pur.assign rfl) ?_
            refine JO.nil ?_
            exact J.weaken (.cons rfl (congrArg (Value.int .i64) hcap) (.cons rfl (congrArg Value.bool hzz) (.cons rfl (congrArg (Value.int .i64) (by first | rfl | (dsimp only; omega))) (.cons rfl rfl .nil)))) (by first | exact fun _ h => h | exact SubC.out | (dsimp only; exact SubC.out)) (ih0 (k + 1) ⟨by omega, hok2⟩ (by omega))
          · try simp only [decide_eq_true_eq, decide_eq_false_iff_not, Bool.not_eq_true', Bool.not_eq_false', Bool.and_eq_true, Bool.or_eq_true, Bool.and_eq_false_iff, Bool.or_eq_false_iff, Option.isNone_some, Option.isSome_some, Option.isNone_none, Option.isSome_none, Int.not_lt, Int.not_le, beq_iff_eq, beq_eq_false_iff_ne, bne_iff_ne, ne_eq, Bool.not_not, Decidable.not_not] at h37
            have hzz : decide (((cnt r : Nat) : Int) = 0) = decide (cntD (rs.take (k + 1)) = 0) := by rw [hz0, decide_eq_false h37, Bool.false_or]; exact decide_eq_decide.2 (by omega)
            refine JO.pur rfl rfl rfl (Pur.move rfl) ?_
            refine JO.pur rfl rfl rfl (Pur.eqlI rfl rfl) ?_
            refine JO.pur rfl rfl rfl (Pur.pickF rfl rfl) ?_
            refine JO.pur rfl rfl rfl (Pur.assign rfl) ?_
            refine JO.nil ?_
            refine J.region rfl ?_
            refine JO.pur rfl rfl rfl (Pur.move rfl) ?_
            refine JO.pur rfl rfl rfl (Pur.move rfl) ?_
            refine JO.pur rfl rfl rfl (Pur.mul rfl rfl (wr64 (by rw [hmm]; omega))) ?_
            refine JO.pur rfl rfl rfl (Pur.min2 rfl rfl) ?_
            refine JO.pur rfl rfl rfl (Pur.assign rfl) ?_
            refine JO.nil ?_
            refine J.inBlock ?_
            refine J.region rfl ?_
            refine JO.pur rfl rfl rfl (Pur.move rfl) ?_
            refine JO.pur rfl rfl rfl (Pur.add rfl rfl (wr64 (by omega))) ?_
            refine JO.pur rfl rfl rfl (Pur.assign rfl) ?_
            refine JO.nil ?_
            exact J.weaken (.cons rfl (congrArg (Value.int .i64) hcap) (.cons rfl (congrArg Value.bool hzz) (.cons rfl (congrArg (Value.int .i64) (by first | rfl | (dsimp only; omega))) (.cons rfl rfl .nil)))) (by first | exact fun _ h => h | exact SubC.out | (dsimp only; exact SubC.out)) (ih0 (k + 1) ⟨by omega, hok2⟩ (by omega))
      · try simp only [decide_eq_true_eq, decide_eq_false_iff_not, Bool.not_eq_true', Bool.not_eq_false', Bool.and_eq_true, Bool.or_eq_true, Bool.and_eq_false_iff, Bool.or_eq_false_iff, Option.isNone_some, Option.isSome_some, Option.isNone_none, Option.isSome_none, Int.not_lt, Int.not_le, beq_iff_eq, beq_eq_false_iff_ne, bne_iff_ne, ne_eq, Bool.not_not, Decidable.not_not] at h22
        have hke : k = rs.length := by omega
        rw [hke, List.take_length] at hok
        rw [hke, List.take_length]
        refine J.condF rfl rfl ?_
        refine J.exit rfl rfl ?_
        refine J.seq rfl ?_
        refine J.region rfl ?_
        refine JO.pur rfl rfl rfl (Pur.move rfl) ?_
        refine JO.pur rfl rfl rfl (Pur.move rfl) ?_
        refine JO.splitB 46 rfl (fun h46 => ?_) (fun h46 => ?_)
        · try simp only [decide_eq_true_eq, decide_eq_false_iff_not, Bool.not_eq_true', Bool.not_eq_false', Bool.and_eq_true, Bool.or_eq_true, Bool.and_eq_false_iff, Bool.or_eq_false_iff, Option.isNone_some, Option.isSome_some, Option.isNone_none, Option.isSome_none, Int.not_lt, Int.not_le, beq_iff_eq, beq_eq_false_iff_ne, bne_iff_ne, ne_eq, Bool.not_not, Decidable.not_not] at h46
          refine JO.no rfl rfl rfl ?_
          refine JO.no rfl rfl rfl ?_
          refine JO.pur rfl rfl rfl (Pur.pickT rfl rfl) ?_
          refine JO.pur rfl rfl rfl (Pur.assign rfl) ?_
          refine JO.nil ?_
          refine J.ret rfl rfl ?_
          refine ⟨_, _, ⟨rfl, rfl⟩, congrArg Value.bool ((decide_eq_true (⟨hl1, hl3, hok, by omega⟩ : okD rs)).symm), SubC.out⟩
        · try simp only [decide_eq_true_eq, decide_eq_false_iff_not, Bool.not_eq_true', Bool.not_eq_false', Bool.and_eq_true, Bool.or_eq_true, Bool.and_eq_false_iff, Bool.or_eq_false_iff, Option.isNone_some, Option.isSome_some, Option.isNone_none, Option.isSome_none, Int.not_lt, Int.not_le, beq_iff_eq, beq_eq_false_iff_ne, bne_iff_ne, ne_eq, Bool.not_not, Decidable.not_not] at h46
          refine JO.pur rfl rfl rfl (Pur.move rfl) ?_
          refine JO.pur rfl rfl rfl (Pur.leq rfl rfl) ?_
          refine JO.pur rfl rfl rfl (Pur.pickF rfl rfl) ?_
          refine JO.pur rfl rfl rfl (Pur.assign rfl) ?_
          refine JO.nil ?_
          refine J.ret rfl rfl ?_
          refine ⟨_, _, ⟨rfl, rfl⟩, congrArg Value.bool (decide_eq_decide.2 ⟨fun hh => ⟨hl1, hl3, hok, by unfold capN at hh; omega⟩, fun ho => by have := ho.2.2.2; unfold capN; omega⟩), SubC.out⟩

/-- The reference's ranges: each canonical, and, where one has no member, the first ones emptied. -/
def emp (rs : List Rg) (j : Nat) : List Rg := (List.replicate j none3) ++ (rs.map canR).drop j
theorem emp_len {rs : List Rg} {j : Nat} (hj : j ≤ rs.length) : (emp rs j).length = rs.length := by simp [emp]; omega
theorem emp_step {rs : List Rg} {j : Nat} (hj : j < rs.length) : (emp rs j).set j none3 = emp rs (j + 1) := by
  unfold emp
  rw [List.set_append_right _ _ (by simp), List.length_replicate, Nat.sub_self, List.drop_eq_getElem_cons (by simpa using hj), List.set_cons_zero, List.replicate_succ', List.append_assoc]; rfl
theorem emp_all {rs : List Rg} (h : cntD rs = 0) : emp rs rs.length = canD rs := by
  unfold emp canD
  rw [if_pos h, List.drop_of_length_le (by simp), List.append_nil]
  simp [List.map_const']
theorem emp_none {rs : List Rg} (h : ¬ cntD rs = 0) : emp rs 0 = canD rs := by
  unfold emp canD
  rw [if_neg h]; rfl
theorem map_can_get {rs : List Rg} {k : Nat} {r : Rg} (h : rs[k]? = some r) : (rs.map canR)[k]? = some (canR r) := by rw [List.getElem?_map, h]; rfl
theorem r_Canon {L : List Asn} {a : Option Addr} {n cap : Nat} {rs : List Rg} [SlIn rgE L a rs] (hn : n = rs.length) :
    CallS Try.prog 96 [.agg #[.slice a n cap]].toArray L (fun v M => ∃ a' c', v = .tuple #[.agg #[.slice a' (cdV rs).length c'], .int .i64 (erD rs)] ∧ M = sl rgE a' c' (cdV rs) :: L) := by
  subst hn
  refine CallS.ent ?_
  refine CallS.enter Try.func96 rfl rfl rfl rfl rfl ?_
  refine J.seq rfl ?_
  refine J.region rfl ?_
  refine JO.eff rfl rfl rfl (Eff.box (cs := [_]) rfl rfl) ?_
  rintro _ _ ⟨b1, rfl, rfl⟩
  refine JO.eff rfl rfl rfl (Eff.alloc (cs := [_]) rfl) ?_
  rintro _ _ ⟨b2, rfl, rfl⟩
  refine JO.pur rfl rfl rfl (Pur.assign rfl) ?_
  refine JO.nil ?_
  refine J.seq rfl ?_
  refine J.seq rfl ?_
  refine J.region rfl ?_
  refine JO.pur rfl rfl rfl (Pur.loadA rfl rfl rfl CellsIn.blk) ?_
  refine JO.effR rfl rfl rfl (Eff.call rfl (r_Valid (rs := rs) rfl)) ?_
  refine JO.pur rfl rfl rfl (Pur.not rfl) ?_
  refine JO.nil ?_
  refine J.splitB 14 rfl (fun h14 => ?_) (fun h14 => ?_)
  · try simp only [decide_eq_true_eq, decide_eq_false_iff_not, Bool.not_eq_true', Bool.not_eq_false', Bool.and_eq_true, Bool.or_eq_true, Bool.and_eq_false_iff, Bool.or_eq_false_iff, Option.isNone_some, Option.isSome_some, Option.isNone_none, Option.isSome_none, Int.not_lt, Int.not_le, beq_iff_eq, beq_eq_false_iff_ne, bne_iff_ne, ne_eq, Bool.not_not, Decidable.not_not] at h14
    have hbad : ¬ okD rs := by simpa using h14
    refine J.condT rfl rfl ?_
    refine J.seq rfl ?_
    refine J.region rfl ?_
    refine JO.pur rfl rfl rfl (Pur.build (cs := [_]) rfl rfl) ?_
    refine JO.effN rfl rfl (Eff.storeBA (cs' := [_]) rfl rfl (by rfl) (by rfl) (by rfl)) ?_
    rintro _ _ ⟨rfl, rfl⟩
    refine JO.pur rfl rfl rfl (Pur.assign rfl) ?_
    refine JO.nil ?_
    refine J.retC rfl (.cell rfl (ld_agg rfl CellsIn.blk) (.tmp rfl .nil)) ?_
    refine ⟨_, _, ⟨none, 0, rfl, rfl⟩, ?_, fun h s => ?_⟩
    · unfold cdV erD; rw [if_neg hbad, if_neg hbad]; rfl
    · unfold cdV; rw [if_neg hbad]; exact sl_nil_new (SubC.out h s)
  · try simp only [decide_eq_true_eq, decide_eq_false_iff_not, Bool.not_eq_true', Bool.not_eq_false', Bool.and_eq_true, Bool.or_eq_true, Bool.and_eq_false_iff, Bool.or_eq_false_iff, Option.isNone_some, Option.isSome_some, Option.isNone_none, Option.isSome_none, Int.not_lt, Int.not_le, beq_iff_eq, beq_eq_false_iff_ne, bne_iff_ne, ne_eq, Bool.not_not, Decidable.not_not] at h14
    have hgood : okD rs := by simpa using h14
    have hl3 := hgood.2.1
    refine J.condF rfl rfl ?_
    refine J.skip rfl ?_
    refine J.seq rfl ?_
    refine J.region rfl ?_
    refine JO.eff rfl rfl rfl (Eff.alloc (cs := [_]) rfl) ?_
    rintro _ _ ⟨b4, rfl, rfl⟩
    refine JO.nil ?_
    refine J.seq rfl ?_
    refine J.region rfl ?_
    refine JO.pur rfl rfl rfl (Pur.assign rfl) ?_
    refine JO.nil ?_
    refine J.seq rfl ?_
    refine J.seq rfl ?_
    refine J.region rfl ?_
    refine JO.pur rfl rfl rfl (Pur.assign rfl) ?_
    refine JO.nil ?_
    refine J.block rfl ?_
    refine J.loopF (ι := Nat × Option Addr × Nat) (fun q => q.1 ≤ rs.length) (fun q => [(5, .bool (decide (cntD (rs.take q.1) = 0))), (6, .int .i64 (q.1 : Int))]) [(1, _), (2, _), (4, _)] (fun q => blk b4 (.cells #[.slice q.2.1 q.1 q.2.2] 24) :: sl rgE q.2.1 q.2.2 ((rs.map canR).take q.1) :: blk b2 (.cells #[.slice none 0 0] 24) :: blk b1 (.cells #[.slice a rs.length cap] 24) :: L) (fun q => rs.length - q.1) (0, none, 0) rfl (.cons rfl rfl (.cons rfl rfl (.cons rfl rfl .nil))) (.cons rfl rfl (.cons rfl rfl .nil)) (fun h s => by have s2 := sl_nil_new (E := rgE) s; dsimp only; rw [List.take_zero]; exact SubC.out (L := sl rgE none 0 [] :: _) h s2) (Nat.zero_le _) ?_
    rintro ⟨k, a4, c4⟩ hk ih0
    try dsimp only
    dsimp only at hk
    have htl : ((rs.map canR).take k).length = k := by rw [List.length_take, List.length_map]; omega
    refine J.seq rfl ?_
    refine J.seq rfl ?_
    refine J.region rfl ?_
    refine JO.pur rfl rfl rfl (Pur.move rfl) ?_
    refine JO.pur rfl rfl rfl (Pur.fieldAddr rfl) ?_
    refine JO.pur rfl rfl rfl (Pur.load rfl (CellIn.blk rfl)) ?_
    refine JO.pur rfl rfl rfl (Pur.len rfl) ?_
    refine JO.pur rfl rfl rfl (Pur.lss rfl rfl) ?_
    refine JO.nil ?_
    refine J.splitB 20 rfl (fun h20 => ?_) (fun h20 => ?_)
    · try simp only [decide_eq_true_eq, decide_eq_false_iff_not, Bool.not_eq_true', Bool.not_eq_false', Bool.and_eq_true, Bool.or_eq_true, Bool.and_eq_false_iff, Bool.or_eq_false_iff, Option.isNone_some, Option.isSome_some, Option.isNone_none, Option.isSome_none, Int.not_lt, Int.not_le, beq_iff_eq, beq_eq_false_iff_ne, bne_iff_ne, ne_eq, Bool.not_not, Decidable.not_not] at h20
      have hkl : k < rs.length := by omega
      have hxk : rs[k]? = some (rs.getD k default) := by rw [List.getD_eq_getElem?_getD, List.getElem?_eq_getElem hkl]; rfl
      have hct := cntD_take hkl
      have hmem := getD_mem (d := rs) (k := k) hkl
      generalize hrr : rs.getD k default = r at *
      have hor := hgood.2.2.1 r hmem
      have hce := cnt_eq hor
      have hap1 := take_get (map_can_get hxk)
      have hz0 := zero_step (cntD (rs.take k)) (cnt r)
      rw [← hct] at hz0
      refine J.condT rfl rfl ?_
      refine J.skip rfl ?_
      refine J.seq rfl ?_
      refine J.block rfl ?_
      refine J.seq rfl ?_
      refine J.region rfl ?_
      refine JO.pur rfl rfl rfl (Pur.fieldAddr rfl) ?_
      refine JO.pur rfl rfl rfl (Pur.load rfl (CellIn.blk rfl)) ?_
      refine JO.pur rfl rfl rfl (Pur.move rfl) ?_
      refine JO.pur rfl rfl rfl (Pur.idx rfl rfl rfl (by first | rfl | (simp; done) | omega) rfl (by omega)) ?_
      refine JO.pur rfl rfl rfl (Pur.loadA rfl rfl rfl (CellsIn.el rfl hxk)) ?_
      refine JO.setv (u' := rgV r) 28 rfl rfl ?_
      refine JO.effR rfl rfl rfl (Eff.call rfl (r3_Count (r := r))) ?_
      refine JO.pur rfl rfl rfl (Pur.move rfl) ?_
      refine JO.pur rfl rfl rfl (Pur.extract rfl rfl) ?_
      refine JO.setv (u' := .int .i64 ((cnt r : Nat) : Int)) 30 rfl (congrArg (Value.int .i64) (show (if okR r then cntI r else 0) = _ by rw [if_pos hor, hce])) ?_
      refine JO.pur rfl rfl rfl (Pur.extract rfl rfl) ?_
      refine JO.pur rfl rfl rfl (Pur.assign rfl) ?_
      refine JO.pur rfl rfl rfl (Pur.assign rfl) ?_
      refine JO.nil ?_
      refine J.seq rfl ?_
      refine J.region rfl ?_
      refine JO.pur rfl rfl rfl (Pur.fieldAddr rfl) ?_
      refine JO.pur rfl rfl rfl (Pur.load rfl (CellIn.blk rfl)) ?_
      refine JO.pur rfl rfl rfl (Pur.move rfl) ?_
      refine JO.pur rfl rfl rfl (Pur.idx rfl rfl rfl (by first | rfl | (simp; done) | omega) rfl (by omega)) ?_
      refine JO.pur rfl rfl rfl (Pur.loadA rfl rfl rfl (CellsIn.el rfl hxk)) ?_
      refine JO.setv (u' := rgV r) 37 rfl rfl ?_
      refine JO.effR rfl rfl rfl (Eff.call rfl (r3_Canon hor)) ?_
      refine JO.pur rfl rfl rfl (Pur.move rfl) ?_
      refine JO.pur rfl rfl rfl (Pur.extract rfl rfl) ?_
      refine JO.setv (u' := rgV (canR r)) 39 rfl rfl ?_
      refine JO.pur rfl rfl rfl (Pur.extract rfl rfl) ?_
      refine JO.eff rfl rfl rfl (Eff.alloc (cs := [_, _, _]) rfl) ?_
      rintro _ _ ⟨b9, rfl, rfl⟩
      refine JO.effN rfl rfl (Eff.storeBA (cs' := [_, _, _]) rfl rfl (by rfl) (by rfl) (by rfl)) ?_
      rintro _ _ ⟨rfl, rfl⟩
      refine JO.pur rfl rfl rfl (Pur.assign rfl) ?_
      refine JO.nil ?_
      refine J.seq rfl ?_
      refine J.region rfl ?_
      refine JO.pur rfl rfl rfl (Pur.move rfl) ?_
      refine JO.pur rfl rfl rfl (Pur.move rfl) ?_
      refine JO.splitB 42 rfl (fun h42 => ?_) (fun h42 => ?_)
      · try simp only [decide_eq_true_eq, decide_eq_false_iff_not, Bool.not_eq_true', Bool.not_eq_false', Bool.and_eq_true, Bool.or_eq_true, Bool.and_eq_false_iff, Bool.or_eq_false_iff, Option.isNone_some, Option.isSome_some, Option.isNone_none, Option.isSome_none, Int.not_lt, Int.not_le, beq_iff_eq, beq_eq_false_iff_ne, bne_iff_ne, ne_eq, Bool.not_not, Decidable.not_not] at h42
        have hzz : true = decide (cntD (rs.take (k + 1)) = 0) := by rw [hz0, decide_eq_true h42]; rfl
        refine JO.no rfl rfl rfl ?_
        refine JO.no rfl rfl rfl ?_
        refine JO.pur rfl rfl rfl (Pur.pickT rfl rfl) ?_
        refine JO.pur rfl rfl rfl (Pur.assign rfl) ?_
        refine JO.nil ?_
        refine J.region rfl ?_
        refine JO.pur rfl rfl rfl (Pur.fieldAddr rfl) ?_
        refine JO.pur rfl rfl rfl (Pur.load rfl (CellIn.blk rfl)) ?_
        refine JO.pur rfl rfl rfl (Pur.loadA rfl rfl rfl CellsIn.blk) ?_
        refine JO.setv (u' := rgV (canR r)) 48 rfl rfl ?_
        refine JO.eff rfl rfl rfl (Eff.buildSlice rgE [canR r] rfl rfl rfl rfl rfl rfl rfl) ?_
        rintro _ _ ⟨b49, rfl, -, rfl⟩
        refine JO.eff rfl rfl rfl (Eff.append rfl rfl rfl rfl (by first | rfl | omega | (simp; done) | (simp; omega)) (by first | rfl | omega | (simp; done) | (simp; omega)) (by decide) (by simp; omega) (by simp; omega) (fun h => by cases h)) ?_
        rintro _ _ ⟨a50, c50, rfl, rfl⟩
        refine JO.pur rfl rfl rfl (Pur.fieldAddr rfl) ?_
        refine JO.effN rfl rfl (Eff.storeB rfl rfl rfl .head) ?_
        rintro _ _ ⟨rfl, rfl⟩
        refine JO.nil ?_
        refine J.inBlock ?_
        refine J.region rfl ?_
        refine JO.pur rfl rfl rfl (Pur.move rfl) ?_
        refine JO.pur rfl rfl rfl (Pur.add rfl rfl (wr64 (by omega))) ?_
        refine JO.pur rfl rfl rfl (Pur.assign rfl) ?_
        refine JO.nil ?_
        exact J.weaken (.cons rfl (congrArg Value.bool hzz) (.cons rfl (congrArg (Value.int .i64) (by first | rfl | (dsimp only; omega))) (.cons rfl rfl (.cons rfl rfl (.cons rfl rfl .nil))))) (fun h s => by rw [← hap1, htl] at s; exact SubC.out h s) (ih0 (k + 1, a50, c50) (by dsimp only; omega) (by dsimp only; omega))
      · try simp only [decide_eq_true_eq, decide_eq_false_iff_not, Bool.not_eq_true', Bool.not_eq_false', Bool.and_eq_true, Bool.or_eq_true, Bool.and_eq_false_iff, Bool.or_eq_false_iff, Option.isNone_some, Option.isSome_some, Option.isNone_none, Option.isSome_none, Int.not_lt, Int.not_le, beq_iff_eq, beq_eq_false_iff_ne, bne_iff_ne, ne_eq, Bool.not_not, Decidable.not_not] at h42
        have hzz : decide (((cnt r : Nat) : Int) = 0) = decide (cntD (rs.take (k + 1)) = 0) := by rw [hz0, decide_eq_false h42, Bool.false_or]; exact decide_eq_decide.2 (by omega)
        refine JO.pur rfl rfl rfl (Pur.move rfl) ?_
        refine JO.pur rfl rfl rfl (Pur.eqlI rfl rfl) ?_
        refine JO.pur rfl rfl rfl (Pur.pickF rfl rfl) ?_
        refine JO.pur rfl rfl rfl (Pur.assign rfl) ?_
        refine JO.nil ?_
        refine J.region rfl ?_
        refine JO.pur rfl rfl rfl (Pur.fieldAddr rfl) ?_
        refine JO.pur rfl rfl rfl (Pur.load rfl (CellIn.blk rfl)) ?_
        refine JO.pur rfl rfl rfl (Pur.loadA rfl rfl rfl CellsIn.blk) ?_
        refine JO.setv (u' := rgV (canR r)) 48 rfl rfl ?_
        refine JO.eff rfl rfl rfl (Eff.buildSlice rgE [canR r] rfl rfl rfl rfl rfl rfl rfl) ?_
        rintro _ _ ⟨b49, rfl, -, rfl⟩
        refine JO.eff rfl rfl rfl (Eff.append rfl rfl rfl rfl (by first | rfl | omega | (simp; done) | (simp; omega)) (by first | rfl | omega | (simp; done) | (simp; omega)) (by decide) (by simp; omega) (by simp; omega) (fun h => by cases h)) ?_
        rintro _ _ ⟨a50, c50, rfl, rfl⟩
        refine JO.pur rfl rfl rfl (Pur.fieldAddr rfl) ?_
        refine JO.effN rfl rfl (Eff.storeB rfl rfl rfl .head) ?_
        rintro _ _ ⟨rfl, rfl⟩
        refine JO.nil ?_
        refine J.inBlock ?_
        refine J.region rfl ?_
        refine JO.pur rfl rfl rfl (Pur.move rfl) ?_
        refine JO.pur rfl rfl rfl (Pur.add rfl rfl (wr64 (by omega))) ?_
        refine JO.pur rfl rfl rfl (Pur.assign rfl) ?_
        refine JO.nil ?_
        exact J.weaken (.cons rfl (congrArg Value.bool hzz) (.cons rfl (congrArg (Value.int .i64) (by first | rfl | (dsimp only; omega))) (.cons rfl rfl (.cons rfl rfl (.cons rfl rfl .nil))))) (fun h s => by rw [← hap1, htl] at s; exact SubC.out h s) (ih0 (k + 1, a50, c50) (by dsimp only; omega) (by dsimp only; omega))
    · try simp only [decide_eq_true_eq, decide_eq_false_iff_not, Bool.not_eq_true', Bool.not_eq_false', Bool.and_eq_true, Bool.or_eq_true, Bool.and_eq_false_iff, Bool.or_eq_false_iff, Option.isNone_some, Option.isSome_some, Option.isNone_none, Option.isSome_none, Int.not_lt, Int.not_le, beq_iff_eq, beq_eq_false_iff_ne, bne_iff_ne, ne_eq, Bool.not_not, Decidable.not_not] at h20
      have hke : k = rs.length := by omega
      have he0 : (rs.map canR).take k = emp rs 0 := by rw [hke, ← List.length_map (f := canR), List.take_length]; rfl
      rw [he0, hke, List.take_length]
      refine J.condF rfl rfl ?_
      refine J.exit rfl rfl ?_
      refine J.seq rfl ?_
      refine J.seq rfl ?_
      refine J.region rfl ?_
      refine JO.pur rfl rfl rfl (Pur.assign rfl) ?_
      refine JO.nil ?_
      refine J.block rfl ?_
      refine J.loopF (ι := Nat) (fun q => q ≤ rs.length ∧ (0 < q → cntD rs = 0)) (fun q => [(11, .int .i64 (q : Int))]) [(2, _), (4, _), (5, _)] (fun q => blk b4 (.cells #[.slice a4 rs.length c4] 24) :: sl rgE a4 c4 (emp rs q) :: blk b2 (.cells #[.slice none 0 0] 24) :: L) (fun q => rs.length - q) 0 rfl (.cons rfl rfl (.cons rfl rfl (.cons rfl rfl .nil))) (.cons rfl rfl .nil) (by first | exact fun _ h => h | exact SubC.out | (dsimp only; exact SubC.out)) ⟨Nat.zero_le _, fun h => absurd h (by decide)⟩ ?_
      rintro j ⟨hj, hjz⟩ ihj
      try dsimp only
      refine J.seq rfl ?_
      refine J.seq rfl ?_
      refine J.region rfl ?_
      refine JO.pur rfl rfl rfl (Pur.move rfl) ?_
      refine JO.pur rfl rfl rfl (Pur.fieldAddr rfl) ?_
      refine JO.pur rfl rfl rfl (Pur.load rfl (CellIn.blk rfl)) ?_
      refine JO.pur rfl rfl rfl (Pur.len rfl) ?_
      refine JO.pur rfl rfl rfl (Pur.lss rfl rfl) ?_
      refine JO.pur rfl rfl rfl (Pur.move rfl) ?_
      refine JO.splitB 57 rfl (fun h57 => ?_) (fun h57 => ?_)
      · try simp only [decide_eq_true_eq, decide_eq_false_iff_not, Bool.not_eq_true', Bool.not_eq_false', Bool.and_eq_true, Bool.or_eq_true, Bool.and_eq_false_iff, Bool.or_eq_false_iff, Option.isNone_some, Option.isSome_some, Option.isNone_none, Option.isSome_none, Int.not_lt, Int.not_le, beq_iff_eq, beq_eq_false_iff_ne, bne_iff_ne, ne_eq, Bool.not_not, Decidable.not_not] at h57
        have hjl : j < rs.length := by omega
        refine JO.pur rfl rfl rfl (Pur.move rfl) ?_
        refine JO.pur rfl rfl rfl (Pur.pickT rfl rfl) ?_
        refine JO.nil ?_
        refine J.splitB 59 rfl (fun h59 => ?_) (fun h59 => ?_)
        · try simp only [decide_eq_true_eq, decide_eq_false_iff_not, Bool.not_eq_true', Bool.not_eq_false', Bool.and_eq_true, Bool.or_eq_true, Bool.and_eq_false_iff, Bool.or_eq_false_iff, Option.isNone_some, Option.isSome_some, Option.isNone_none, Option.isSome_none, Int.not_lt, Int.not_le, beq_iff_eq, beq_eq_false_iff_ne, bne_iff_ne, ne_eq, Bool.not_not, Decidable.not_not] at h59
          have hz9 : cntD rs = 0 := h59
          have hel := emp_len hj
          refine J.condT rfl rfl ?_
          refine J.skip rfl ?_
          refine J.seq rfl ?_
          refine J.block rfl ?_
          refine J.region rfl ?_
          refine JO.pur rfl rfl rfl (Pur.fieldAddr rfl) ?_
          refine JO.pur rfl rfl rfl (Pur.load rfl (CellIn.blk rfl)) ?_
          refine JO.pur rfl rfl rfl (Pur.move rfl) ?_
          refine JO.pur rfl rfl rfl (Pur.build (cs := [_, _, _]) rfl rfl) ?_
          refine JO.pur rfl rfl rfl (Pur.idx rfl rfl rfl (by first | rfl | (simp; done) | omega) rfl (by omega)) ?_
          refine JO.effN rfl rfl (Eff.storeSA (z' := none3) rfl rfl rfl rfl (by omega) rfl) ?_
          rintro _ _ ⟨rfl, rfl⟩
          refine JO.nil ?_
          refine J.inBlock ?_
          refine J.region rfl ?_
          refine JO.pur rfl rfl rfl (Pur.move rfl) ?_
          refine JO.pur rfl rfl rfl (Pur.add rfl rfl (wr64 (by omega))) ?_
          refine JO.pur rfl rfl rfl (Pur.assign rfl) ?_
          refine JO.nil ?_
          exact J.weaken (.cons rfl (congrArg (Value.int .i64) (by first | rfl | (dsimp only; omega))) (.cons rfl rfl (.cons rfl rfl (.cons rfl rfl .nil)))) (fun h s => by rw [emp_step hjl] at s; exact SubC.out h s) (ihj (j + 1) ⟨by omega, fun _ => hz9⟩ (by omega))
        · try simp only [decide_eq_true_eq, decide_eq_false_iff_not, Bool.not_eq_true', Bool.not_eq_false', Bool.and_eq_true, Bool.or_eq_true, Bool.and_eq_false_iff, Bool.or_eq_false_iff, Option.isNone_some, Option.isSome_some, Option.isNone_none, Option.isSome_none, Int.not_lt, Int.not_le, beq_iff_eq, beq_eq_false_iff_ne, bne_iff_ne, ne_eq, Bool.not_not, Decidable.not_not] at h59
          have he9 : emp rs j = canD rs := by
            have h59' : ¬ cntD rs = 0 := h59
            have : j = 0 := by
              by_cases hj0 : 0 < j
              · exact absurd (hjz hj0) h59'
              · omega
            subst this
            exact emp_none h59'
          refine J.condF rfl rfl ?_
          refine J.exit rfl rfl ?_
          refine J.seq rfl ?_
          refine J.region rfl ?_
          refine JO.pur rfl rfl rfl (Pur.loadA rfl rfl rfl CellsIn.blk) ?_
          refine JO.effN rfl rfl (Eff.storeBA (cs' := [_]) rfl rfl (by rfl) (by rfl) (by rfl)) ?_
          rintro _ _ ⟨rfl, rfl⟩
          refine JO.pur rfl rfl rfl (Pur.assign rfl) ?_
          refine JO.nil ?_
          refine J.retC rfl (.cell rfl (ld_agg rfl CellsIn.blk) (.tmp rfl .nil)) ?_
          refine ⟨_, _, ⟨a4, c4, rfl, rfl⟩, ?_, fun h s => ?_⟩
          · unfold cdV erD; rw [if_pos hgood, if_pos hgood, canD_len]; rfl
          · unfold cdV; rw [if_pos hgood, ← he9]; exact SubC.out h s
      · try simp only [decide_eq_true_eq, decide_eq_false_iff_not, Bool.not_eq_true', Bool.not_eq_false', Bool.and_eq_true, Bool.or_eq_true, Bool.and_eq_false_iff, Bool.or_eq_false_iff, Option.isNone_some, Option.isSome_some, Option.isNone_none, Option.isSome_none, Int.not_lt, Int.not_le, beq_iff_eq, beq_eq_false_iff_ne, bne_iff_ne, ne_eq, Bool.not_not, Decidable.not_not] at h57
        have he9 : emp rs j = canD rs := by
          obtain rfl : j = rs.length := by omega
          exact emp_all (hjz (by have := hgood.1; omega))
        refine JO.no rfl rfl rfl ?_
        refine JO.pur rfl rfl rfl (Pur.pickF rfl rfl) ?_
        refine JO.nil ?_
        refine J.condF rfl rfl ?_
        refine J.exit rfl rfl ?_
        refine J.seq rfl ?_
        refine J.region rfl ?_
        refine JO.pur rfl rfl rfl (Pur.loadA rfl rfl rfl CellsIn.blk) ?_
        refine JO.effN rfl rfl (Eff.storeBA (cs' := [_]) rfl rfl (by rfl) (by rfl) (by rfl)) ?_
        rintro _ _ ⟨rfl, rfl⟩
        refine JO.pur rfl rfl rfl (Pur.assign rfl) ?_
        refine JO.nil ?_
        refine J.retC rfl (.cell rfl (ld_agg rfl CellsIn.blk) (.tmp rfl .nil)) ?_
        refine ⟨_, _, ⟨a4, c4, rfl, rfl⟩, ?_, fun h s => ?_⟩
        · unfold cdV erD; rw [if_pos hgood, if_pos hgood, canD_len]; rfl
        · unfold cdV; rw [if_pos hgood, ← he9]; exact SubC.out h s

end Go.Proofs.Ytnhippfllgnngaa
