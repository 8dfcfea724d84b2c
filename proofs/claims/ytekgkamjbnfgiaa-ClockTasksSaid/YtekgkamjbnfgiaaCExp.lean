/-
  A part of the proof of the claim that this folder bears.
  This text: CExp.
-/
import Derived.Test.YtekgkamjbnfgiaaCTable
set_option linter.unusedVariables false
set_option linter.unusedSimpArgs false
namespace Go.Proofs.Ytekgkamjbnfgiaa
open Go Go.KK Ck

theorem nn_eq {i k : Int} {ni nk : Nat} (hi : i = (ni : Int)) (hk : k = (nk : Int)) : decide (i ≠ k) = decide (ni ≠ nk) := by
  subst hi; subst hk; exact decide_eq_decide.2 (by omega)
theorem clk_get {xs : List Evt} (hf : Fine xs) {k : Nat} (hk : k < xs.length) : (clks xs)[k]? = some (clkAt xs k) := getD_get (by rw [clks_len hf]; exact hk)
theorem el_get {l : List Int} {i : Nat} (h : i < l.length) : l[i] = l.getD i 0 := by simp [List.getD_eq_getElem?_getD, h]
section
variable {L : List Asn} {b ca : Option Addr} {cp cc : Nat} {xs : List Evt} {hs : List Hdr}
theorem before_c [s1 : SlIn evE L b xs] [s2 : SlIn rowE L ca hs] [s3 : KK.RowsIn intE L hs (clks xs)] (hf : Fine xs) {i k : Int} {ni nk : Nat} (hi : i = (ni : Int)) (hk : k = (nk : Int)) (hil : ni < xs.length) (hkl : nk < xs.length) :
    CallS Try.prog 40 [.slice b xs.length cp, .slice ca xs.length cc, .int .i64 i, .int .i64 k].toArray L (fun v M => v = .bool (befV xs ni nk) ∧ M = L) :=
  CallS.fact (fun h s => KK.RowsIn.n (hs := hs) s) fun e => by
    have hl : hs.length = xs.length := by rw [rows_len e]; exact clks_len hf
    have h1 : hs[ni]? = some (hs.getD ni default) := getD_get (by omega)
    have h2 : hs[nk]? = some (hs.getD nk default) := getD_get (by omega)
    have c1 := clk_get hf hil
    have c2 := clk_get hf hkl
    have l1 := clkAt_len hf hil
    have l2 := clkAt_len hf hkl
    have t1 := tk_lt hf hil
    have e1 : xs[ni] = ev xs ni := ev_el hil
    refine (before_ok s3 rfl hl.symm hi hk hil h1 c1 h2 c2 (hdr_n e h1 c1) (hdr_n e h2 c2) (by rw [e1]; exact (hf ni hil).t0) (by rw [e1, l1]; exact t1) (by rw [e1, l2]; exact t1)).eqv (congrArg Value.bool ?_)
    unfold befV
    rw [nn_eq hi hk, el_get, el_get, e1]; rfl
theorem isRace_c [s1 : SlIn evE L b xs] [s2 : SlIn rowE L ca hs] [s3 : KK.RowsIn intE L hs (clks xs)] (hf : Fine xs) {i k : Int} {ni nk : Nat} (hi : i = (ni : Int)) (hk : k = (nk : Int)) (hil : ni < xs.length) (hkl : nk < xs.length) :
    CallS Try.prog 37 [.slice b xs.length cp, .slice ca xs.length cc, .int .i64 i, .int .i64 k].toArray L (fun v M => v = .bool (raceV xs ni nk) ∧ M = L) :=
  CallS.fact (fun h s => KK.RowsIn.n (hs := hs) s) fun e => by
    have hl : hs.length = xs.length := by rw [rows_len e]; exact clks_len hf
    have h1 : hs[ni]? = some (hs.getD ni default) := getD_get (by omega)
    have h2 : hs[nk]? = some (hs.getD nk default) := getD_get (by omega)
    have c1 := clk_get hf hil
    have c2 := clk_get hf hkl
    have l1 := clkAt_len hf hil
    have l2 := clkAt_len hf hkl
    have t1 := tk_lt hf hil
    have t2 := tk_lt hf hkl
    have e1 : xs[ni] = ev xs ni := ev_el hil
    have e2 : xs[nk] = ev xs nk := ev_el hkl
    refine (isRace_ok s3 rfl hl.symm hi hk hil hkl h1 c1 h2 c2 (hdr_n e h1 c1) (hdr_n e h2 c2) (by rw [e1]; exact (hf ni hil).t0) (by rw [e1, l1]; exact t1) (by rw [e1, l2]; exact t1) (by rw [e2]; exact (hf nk hkl).t0) (by rw [e2, l1]; exact t2) (by rw [e2, l2]; exact t2)).eqv (congrArg Value.bool ?_)
    unfold raceV befV
    rw [nn_eq hi hk, nn_eq hk hi, el_get, el_get, el_get, el_get, e1, e2]; rfl
end
def befR (xs : List Evt) (i k : Int) : Bool := if askE xs [i, k] = 0 then befV xs i.toNat k.toNat else false
theorem ask0 {xs : List Evt} {es : List Int} (h : askE xs es = 0) : rightB xs = true ∧ ∀ i ∈ es, 0 ≤ i ∧ i < xs.length := by
  unfold askE at h
  split at h
  · rename_i hr
    split at h
    · simp at h
    · rename_i ha
      refine ⟨hr, fun i hi => ?_⟩
      have ha' : es.any (badI xs.length) = false := by simpa using ha
      have h1 := List.any_eq_false.1 ha' i hi
      unfold badI at h1
      simp only [Bool.or_eq_true, decide_eq_true_eq, not_or] at h1
      omega
  · simp at h
theorem ask_no {xs : List Evt} {es : List Int} (h : rightB xs = false) : askE xs es = 130 := by unfold askE; rw [h]; rfl
theorem ask_bad {xs : List Evt} {es : List Int} (h : rightB xs = true) (h2 : es.any (badI xs.length) = true) : askE xs es = 2 := by unfold askE; rw [if_pos h, if_pos h2]
theorem ask_ok {xs : List Evt} {es : List Int} (h : rightB xs = true) (h2 : es.any (badI xs.length) = false) : askE xs es = 0 := by unfold askE; rw [if_pos h, if_neg (by rw [h2]; simp)]
theorem any2 (p : Int → Bool) (i k : Int) : [i, k].any p = (p i || p k) := by simp
theorem any1 (p : Int → Bool) (i : Int) : [i].any p = p i := by simp

theorem Before_ok {L : List Asn} {b : Option Addr} {n cp : Nat} {xs : List Evt} [SlIn evE L b xs] (hn : n = xs.length) (hb : xs.length ≤ 9223372036854775807) (i k : Int) :
    CallS Try.prog 18 [.slice b n cp, .int .i64 i, .int .i64 k].toArray L (fun v M => v = .tuple #[.bool (befR xs i k), .int .i64 (askE xs [i, k])] ∧ M = L) := by
  subst hn
  refine CallS.ent ?_
  refine CallS.enter Try.func18 rfl rfl rfl rfl rfl ?_
  refine J.seq rfl ?_
  refine J.region rfl ?_
  refine JO.pur rfl rfl rfl (Pur.assign rfl) ?_
  refine JO.pur rfl rfl rfl (Pur.assign rfl) ?_
  refine JO.nil ?_
  refine J.seq rfl ?_
  refine J.seq rfl ?_
  refine J.region rfl ?_
  refine JO.pur rfl rfl rfl (Pur.move rfl) ?_
  refine JO.pur rfl rfl rfl (Pur.move rfl) ?_
  refine JO.pur rfl rfl rfl (Pur.move rfl) ?_
  refine JO.eff rfl rfl rfl (Eff.buildSlice intE [i, k] rfl rfl rfl rfl rfl rfl rfl) ?_
  rintro _ _ ⟨b12, rfl, -, rfl⟩
  refine JO.effR rfl rfl rfl (Eff.call rfl (asked_ok (es := [i, k]) rfl hb rfl (by simp))) ?_
  refine JO.pur rfl rfl rfl (Pur.assign rfl) ?_
  refine JO.nil ?_
  refine J.seq rfl ?_
  refine J.region rfl ?_
  refine JO.pur rfl rfl rfl (Pur.move rfl) ?_
  refine JO.pur rfl rfl rfl (Pur.neqI rfl rfl) ?_
  refine JO.nil ?_
  refine J.splitB 15 rfl (fun h15 => ?_) (fun h15 => ?_)
  · try simp only [decide_eq_true_eq, decide_eq_false_iff_not, Bool.not_eq_true', Bool.not_eq_false', Bool.and_eq_true, Bool.or_eq_true, Bool.and_eq_false_iff, Bool.or_eq_false_iff, Option.isNone_some, Option.isSome_some, Option.isNone_none, Option.isSome_none, Int.not_lt, Int.not_le, beq_iff_eq, beq_eq_false_iff_ne, bne_iff_ne, ne_eq, Bool.not_not, Decidable.not_not] at h15
    refine J.condT rfl rfl ?_
    refine J.seq rfl ?_
    refine J.region rfl ?_
    refine JO.pur rfl rfl rfl (Pur.move rfl) ?_
    refine JO.pur rfl rfl rfl (Pur.assign rfl) ?_
    refine JO.pur rfl rfl rfl (Pur.assign rfl) ?_
    refine JO.nil ?_
    refine J.ret rfl rfl ?_
    first
      | (exact ⟨_, _, ⟨rfl, rfl⟩, (by rw [show befR xs i k = false by unfold befR; rw [if_neg h15]]; rfl), SubC.out⟩)
      | (exact ⟨_, _, ⟨rfl, rfl⟩, (by unfold befR; rw [if_pos h15, h15]; rfl), SubC.out⟩)
  · try simp only [decide_eq_true_eq, decide_eq_false_iff_not, Bool.not_eq_true', Bool.not_eq_false', Bool.and_eq_true, Bool.or_eq_true, Bool.and_eq_false_iff, Bool.or_eq_false_iff, Option.isNone_some, Option.isSome_some, Option.isNone_none, Option.isSome_none, Int.not_lt, Int.not_le, beq_iff_eq, beq_eq_false_iff_ne, bne_iff_ne, ne_eq, Bool.not_not, Decidable.not_not] at h15
    obtain ⟨hR, hin⟩ := ask0 h15
    have hf := right_fine hR
    have hlen := right_len hR
    have hI := hin i (by simp)
    have hK := hin k (by simp)
    have hti : i = ((i.toNat : Nat) : Int) := (Int.toNat_of_nonneg hI.1).symm
    have htk : k = ((k.toNat : Nat) : Int) := (Int.toNat_of_nonneg hK.1).symm
    refine J.condF rfl rfl ?_
    refine J.skip rfl ?_
    refine J.seq rfl ?_
    refine J.region rfl ?_
    refine JO.pur rfl rfl rfl (Pur.move rfl) ?_
    refine JO.pur rfl rfl rfl (Pur.move rfl) ?_
    refine JO.eff rfl rfl rfl (Eff.call rfl (clocks_ok rfl hlen hf)) ?_
    rintro _ _ ⟨a19, c19, hs19, rfl, rfl⟩
    refine JO.pur rfl rfl rfl (Pur.move rfl) ?_
    refine JO.pur rfl rfl rfl (Pur.move rfl) ?_
    refine JO.effR rfl rfl rfl (Eff.call rfl (before_c hf hti htk (by omega) (by omega))) ?_
    refine JO.pur rfl rfl rfl (Pur.assign rfl) ?_
    refine JO.pur rfl rfl rfl (Pur.assign rfl) ?_
    refine JO.nil ?_
    refine J.ret rfl rfl ?_
    first
      | (exact ⟨_, _, ⟨rfl, rfl⟩, (by rw [show befR xs i k = false by unfold befR; rw [if_neg h15]]; rfl), SubC.out⟩)
      | (exact ⟨_, _, ⟨rfl, rfl⟩, (by unfold befR; rw [if_pos h15, h15]; rfl), SubC.out⟩)

def raceR (xs : List Evt) (i k : Int) : Bool := if askE xs [i, k] = 0 then raceV xs i.toNat k.toNat else false
theorem IsRace_ok {L : List Asn} {b : Option Addr} {n cp : Nat} {xs : List Evt} [SlIn evE L b xs] (hn : n = xs.length) (hb : xs.length ≤ 9223372036854775807) (i k : Int) :
    CallS Try.prog 23 [.slice b n cp, .int .i64 i, .int .i64 k].toArray L (fun v M => v = .tuple #[.bool (raceR xs i k), .int .i64 (askE xs [i, k])] ∧ M = L) := by
  subst hn
  refine CallS.ent ?_
  refine CallS.enter Try.func23 rfl rfl rfl rfl rfl ?_
  refine J.seq rfl ?_
  refine J.region rfl ?_
  refine JO.pur rfl rfl rfl (Pur.assign rfl) ?_
  refine JO.pur rfl rfl rfl (Pur.assign rfl) ?_
  refine JO.nil ?_
  refine J.seq rfl ?_
  refine J.seq rfl ?_
  refine J.region rfl ?_
  refine JO.pur rfl rfl rfl (Pur.move rfl) ?_
  refine JO.pur rfl rfl rfl (Pur.move rfl) ?_
  refine JO.pur rfl rfl rfl (Pur.move rfl) ?_
  refine JO.eff rfl rfl rfl (Eff.buildSlice intE [i, k] rfl rfl rfl rfl rfl rfl rfl) ?_
  rintro _ _ ⟨b12, rfl, -, rfl⟩
  refine JO.effR rfl rfl rfl (Eff.call rfl (asked_ok (es := [i, k]) rfl hb rfl (by simp))) ?_
  refine JO.pur rfl rfl rfl (Pur.assign rfl) ?_
  refine JO.nil ?_
  refine J.seq rfl ?_
  refine J.region rfl ?_
  refine JO.pur rfl rfl rfl (Pur.move rfl) ?_
  refine JO.pur rfl rfl rfl (Pur.neqI rfl rfl) ?_
  refine JO.nil ?_
  refine J.splitB 15 rfl (fun h15 => ?_) (fun h15 => ?_)
  · try simp only [decide_eq_true_eq, decide_eq_false_iff_not, Bool.not_eq_true', Bool.not_eq_false', Bool.and_eq_true, Bool.or_eq_true, Bool.and_eq_false_iff, Bool.or_eq_false_iff, Option.isNone_some, Option.isSome_some, Option.isNone_none, Option.isSome_none, Int.not_lt, Int.not_le, beq_iff_eq, beq_eq_false_iff_ne, bne_iff_ne, ne_eq, Bool.not_not, Decidable.not_not] at h15
    refine J.condT rfl rfl ?_
    refine J.seq rfl ?_
    refine J.region rfl ?_
    refine JO.pur rfl rfl rfl (Pur.move rfl) ?_
    refine JO.pur rfl rfl rfl (Pur.assign rfl) ?_
    refine JO.pur rfl rfl rfl (Pur.assign rfl) ?_
    refine JO.nil ?_
    refine J.ret rfl rfl ?_
    first
      | (exact ⟨_, _, ⟨rfl, rfl⟩, (by rw [show raceR xs i k = false by unfold raceR; rw [if_neg h15]]; rfl), SubC.out⟩)
      | (exact ⟨_, _, ⟨rfl, rfl⟩, (by unfold raceR; rw [if_pos h15, h15]; rfl), SubC.out⟩)
  · try simp only [decide_eq_true_eq, decide_eq_false_iff_not, Bool.not_eq_true', Bool.not_eq_false', Bool.and_eq_true, Bool.or_eq_true, Bool.and_eq_false_iff, Bool.or_eq_false_iff, Option.isNone_some, Option.isSome_some, Option.isNone_none, Option.isSome_none, Int.not_lt, Int.not_le, beq_iff_eq, beq_eq_false_iff_ne, bne_iff_ne, ne_eq, Bool.not_not, Decidable.not_not] at h15
    obtain ⟨hR, hin⟩ := ask0 h15
    have hf := right_fine hR
    have hlen := right_len hR
    have hI := hin i (by simp)
    have hK := hin k (by simp)
    have hti : i = ((i.toNat : Nat) : Int) := (Int.toNat_of_nonneg hI.1).symm
    have htk : k = ((k.toNat : Nat) : Int) := (Int.toNat_of_nonneg hK.1).symm
    refine J.condF rfl rfl ?_
    refine J.skip rfl ?_
    refine J.seq rfl ?_
    refine J.region rfl ?_
    refine JO.pur rfl rfl rfl (Pur.move rfl) ?_
    refine JO.pur rfl rfl rfl (Pur.move rfl) ?_
    refine JO.eff rfl rfl rfl (Eff.call rfl (clocks_ok rfl hlen hf)) ?_
    rintro _ _ ⟨a19, c19, hs19, rfl, rfl⟩
    refine JO.pur rfl rfl rfl (Pur.move rfl) ?_
    refine JO.pur rfl rfl rfl (Pur.move rfl) ?_
    refine JO.effR rfl rfl rfl (Eff.call rfl (isRace_c hf hti htk (by omega) (by omega))) ?_
    refine JO.pur rfl rfl rfl (Pur.assign rfl) ?_
    refine JO.pur rfl rfl rfl (Pur.assign rfl) ?_
    refine JO.nil ?_
    refine J.ret rfl rfl ?_
    first
      | (exact ⟨_, _, ⟨rfl, rfl⟩, (by rw [show raceR xs i k = false by unfold raceR; rw [if_neg h15]]; rfl), SubC.out⟩)
      | (exact ⟨_, _, ⟨rfl, rfl⟩, (by unfold raceR; rw [if_pos h15, h15]; rfl), SubC.out⟩)

theorem rBefore_ok {L : List Asn} {b : Option Addr} {n cp : Nat} {xs : List Evt} [SlIn evE L b xs] (hn : n = xs.length) (hb : xs.length ≤ 9223372036854775807) (i k : Int) :
    CallS Try.prog 19 [.slice b n cp, .int .i64 i, .int .i64 k].toArray L (fun v M => v = .tuple #[.bool (befR xs i k), .int .i64 (askE xs [i, k])] ∧ M = L) := by
  subst hn
  refine CallS.ent ?_
  refine CallS.enter Try.func19 rfl rfl rfl rfl rfl ?_
  refine J.seq rfl ?_
  refine J.region rfl ?_
  refine JO.pur rfl rfl rfl (Pur.assign rfl) ?_
  refine JO.pur rfl rfl rfl (Pur.assign rfl) ?_
  refine JO.nil ?_
  refine J.seq rfl ?_
  refine J.block rfl ?_
  refine J.seq rfl ?_
  refine J.region rfl ?_
  refine JO.pur rfl rfl rfl (Pur.move rfl) ?_
  refine JO.effR rfl rfl rfl (Eff.call rfl (rright_ok rfl hb)) ?_
  refine JO.pur rfl rfl rfl (Pur.not rfl) ?_
  refine JO.pur rfl rfl rfl (Pur.assign rfl) ?_
  refine JO.nil ?_
  refine J.splitB 8 rfl (fun h8 => ?_) (fun h8 => ?_)
  · try simp only [decide_eq_true_eq, decide_eq_false_iff_not, Bool.not_eq_true', Bool.not_eq_false', Bool.and_eq_true, Bool.or_eq_true, Bool.and_eq_false_iff, Bool.or_eq_false_iff, Option.isNone_some, Option.isSome_some, Option.isNone_none, Option.isSome_none, Int.not_lt, Int.not_le, beq_iff_eq, beq_eq_false_iff_ne, bne_iff_ne, ne_eq, Bool.not_not, Decidable.not_not] at h8
    have hask : askE xs [i, k] = 130 := ask_no (by simpa using h8)
    refine J.condT rfl rfl ?_
    refine J.seq rfl ?_
    refine J.region rfl ?_
    refine JO.pur rfl rfl rfl (Pur.assign rfl) ?_
    refine JO.pur rfl rfl rfl (Pur.assign rfl) ?_
    refine JO.nil ?_
    refine J.ret rfl rfl ?_
    first
      | exact ⟨_, _, ⟨rfl, rfl⟩, (by rw [show befR xs i k = false by unfold befR; rw [if_neg (by rw [hask]; decide)]]; rw [hask]; rfl), SubC.out⟩
      | exact ⟨_, _, ⟨rfl, rfl⟩, (by unfold befR; rw [if_pos h15, h15]; first | rfl | (rw [hval]; rfl) | (simp_all; done)), SubC.out⟩
  · try simp only [decide_eq_true_eq, decide_eq_false_iff_not, Bool.not_eq_true', Bool.not_eq_false', Bool.and_eq_true, Bool.or_eq_true, Bool.and_eq_false_iff, Bool.or_eq_false_iff, Option.isNone_some, Option.isSome_some, Option.isNone_none, Option.isSome_none, Int.not_lt, Int.not_le, beq_iff_eq, beq_eq_false_iff_ne, bne_iff_ne, ne_eq, Bool.not_not, Decidable.not_not] at h8
    have hR : rightB xs = true := by simpa using h8
    have hf := right_fine hR
    have hlen := right_len hR
    refine J.condF rfl rfl ?_
    refine J.seq rfl ?_
    refine J.region rfl ?_
    refine JO.pur rfl rfl rfl (Pur.move rfl) ?_
    refine JO.pur rfl rfl rfl (Pur.move rfl) ?_
    refine JO.effR rfl rfl rfl (Eff.call rfl (is_ok i)) ?_
    refine JO.pur rfl rfl rfl (Pur.not rfl) ?_
    refine JO.pur rfl rfl rfl (Pur.move rfl) ?_
    refine JO.splitB 17 rfl (fun h17 => ?_) (fun h17 => ?_)
    · try simp only [decide_eq_true_eq, decide_eq_false_iff_not, Bool.not_eq_true', Bool.not_eq_false', Bool.and_eq_true, Bool.or_eq_true, Bool.and_eq_false_iff, Bool.or_eq_false_iff, Option.isNone_some, Option.isSome_some, Option.isNone_none, Option.isSome_none, Int.not_lt, Int.not_le, beq_iff_eq, beq_eq_false_iff_ne, bne_iff_ne, ne_eq, Bool.not_not, Decidable.not_not] at h17
      have hask : askE xs [i, k] = 2 := ask_bad hR (by rw [any2]; simp_all)
      refine JO.no rfl rfl rfl ?_
      refine JO.no rfl rfl rfl ?_
      refine JO.no rfl rfl rfl ?_
      refine JO.no rfl rfl rfl ?_
      refine JO.pur rfl rfl rfl (Pur.pickT rfl rfl) ?_
      refine JO.pur rfl rfl rfl (Pur.assign rfl) ?_
      refine JO.nil ?_
      refine J.condT rfl rfl ?_
      refine J.seq rfl ?_
      refine J.region rfl ?_
      refine JO.pur rfl rfl rfl (Pur.assign rfl) ?_
      refine JO.pur rfl rfl rfl (Pur.assign rfl) ?_
      refine JO.nil ?_
      refine J.ret rfl rfl ?_
      first
        | exact ⟨_, _, ⟨rfl, rfl⟩, (by rw [show befR xs i k = false by unfold befR; rw [if_neg (by rw [hask]; decide)]]; rw [hask]; rfl), SubC.out⟩
        | exact ⟨_, _, ⟨rfl, rfl⟩, (by unfold befR; rw [if_pos h15, h15]; first | rfl | (rw [hval]; rfl) | (simp_all; done)), SubC.out⟩
    · try simp only [decide_eq_true_eq, decide_eq_false_iff_not, Bool.not_eq_true', Bool.not_eq_false', Bool.and_eq_true, Bool.or_eq_true, Bool.and_eq_false_iff, Bool.or_eq_false_iff, Option.isNone_some, Option.isSome_some, Option.isNone_none, Option.isSome_none, Int.not_lt, Int.not_le, beq_iff_eq, beq_eq_false_iff_ne, bne_iff_ne, ne_eq, Bool.not_not, Decidable.not_not] at h17
      refine JO.pur rfl rfl rfl (Pur.move rfl) ?_
      refine JO.pur rfl rfl rfl (Pur.move rfl) ?_
      refine JO.effR rfl rfl rfl (Eff.call rfl (is_ok k)) ?_
      refine JO.pur rfl rfl rfl (Pur.not rfl) ?_
      refine JO.pur rfl rfl rfl (Pur.pickF rfl rfl) ?_
      refine JO.pur rfl rfl rfl (Pur.assign rfl) ?_
      refine JO.nil ?_
      refine J.splitB 12 rfl (fun h12 => ?_) (fun h12 => ?_)
      · try simp only [decide_eq_true_eq, decide_eq_false_iff_not, Bool.not_eq_true', Bool.not_eq_false', Bool.and_eq_true, Bool.or_eq_true, Bool.and_eq_false_iff, Bool.or_eq_false_iff, Option.isNone_some, Option.isSome_some, Option.isNone_none, Option.isSome_none, Int.not_lt, Int.not_le, beq_iff_eq, beq_eq_false_iff_ne, bne_iff_ne, ne_eq, Bool.not_not, Decidable.not_not] at h12
        have hask : askE xs [i, k] = 2 := ask_bad hR (by rw [any2]; simp_all)
        refine J.condT rfl rfl ?_
        refine J.seq rfl ?_
        refine J.region rfl ?_
        refine JO.pur rfl rfl rfl (Pur.assign rfl) ?_
        refine JO.pur rfl rfl rfl (Pur.assign rfl) ?_
        refine JO.nil ?_
        refine J.ret rfl rfl ?_
        first
          | exact ⟨_, _, ⟨rfl, rfl⟩, (by rw [show befR xs i k = false by unfold befR; rw [if_neg (by rw [hask]; decide)]]; rw [hask]; rfl), SubC.out⟩
          | exact ⟨_, _, ⟨rfl, rfl⟩, (by unfold befR; rw [if_pos h15, h15]; first | rfl | (rw [hval]; rfl) | (simp_all; done)), SubC.out⟩
      · try simp only [decide_eq_true_eq, decide_eq_false_iff_not, Bool.not_eq_true', Bool.not_eq_false', Bool.and_eq_true, Bool.or_eq_true, Bool.and_eq_false_iff, Bool.or_eq_false_iff, Option.isNone_some, Option.isSome_some, Option.isNone_none, Option.isSome_none, Int.not_lt, Int.not_le, beq_iff_eq, beq_eq_false_iff_ne, bne_iff_ne, ne_eq, Bool.not_not, Decidable.not_not] at h12
        have hbi : badI xs.length i = false := by simpa using h17
        have hbk : badI xs.length k = false := by simpa using h12
        have h15 : askE xs [i, k] = 0 := ask_ok hR (by rw [any2, hbi, hbk]; rfl)
        obtain ⟨-, hin⟩ := ask0 h15
        have hI := hin i (by simp)
        have hK := hin k (by simp)
        have hti : i = ((i.toNat : Nat) : Int) := (Int.toNat_of_nonneg hI.1).symm
        have htk : k = ((k.toNat : Nat) : Int) := (Int.toNat_of_nonneg hK.1).symm
        refine J.condF rfl rfl ?_
        refine J.skip rfl ?_
        refine J.inBlock ?_
        refine J.seq rfl ?_
        refine J.region rfl ?_
        refine JO.pur rfl rfl rfl (Pur.move rfl) ?_
        refine JO.eff rfl rfl rfl (Eff.call rfl (table_ok rfl hlen)) ?_
        rintro _ _ ⟨a24, c24, hs24, tab, hU, rfl, rfl⟩
        refine JO.fact (fun h s => KK.RowsIn.n (hs := hs24) s) fun hnn => ?_
        have hhl : hs24.length = xs.length := by rw [rows_len hnn]; exact hU.1
        have kh : hs24[k.toNat]? = some (hs24.getD k.toNat default) := getD_get (by omega)
        have kt : tab[k.toNat]? = some (tab.getD k.toNat []) := getD_get (by rw [hU.1]; omega)
        have kn := hdr_n hnn kh kt
        have kl := (hU.2 k.toNat (by omega)).1
        have kv := fun j (hj : j < xs.length) => befV_of hf hj (by omega) ((hU.2 k.toNat (by omega)).2 j hj)
        refine JO.pur rfl rfl rfl (Pur.move rfl) ?_
        refine JO.pur rfl rfl rfl (Pur.idx rfl rfl rfl (by first | rfl | (simp; done) | omega) htk (by omega)) ?_
        refine JO.pur rfl rfl rfl (Pur.load rfl (CellIn.el0 rfl kh rfl)) ?_
        refine JO.pur rfl rfl rfl (Pur.move rfl) ?_
        refine JO.pur rfl rfl rfl (Pur.idx (hs := RowsIn.row (E := boolE) inferInstance kh kt) rfl rfl rfl (by first | rfl | (simp; done) | omega) hti (by omega)) ?_
        refine JO.pur rfl rfl rfl (Pur.load rfl (CellIn.el0 (hh := RowsIn.row (E := boolE) inferInstance kh kt) rfl (getD_get (d := false) (by omega)) rfl)) ?_
        rw [kv _ (by omega)]
        refine JO.pur rfl rfl rfl (Pur.assign rfl) ?_
        refine JO.pur rfl rfl rfl (Pur.assign rfl) ?_
        refine JO.nil ?_
        refine J.ret rfl rfl ?_
        first
          | exact ⟨_, _, ⟨rfl, rfl⟩, (by rw [show befR xs i k = false by unfold befR; rw [if_neg (by rw [hask]; decide)]]; rw [hask]; rfl), SubC.out⟩
          | exact ⟨_, _, ⟨rfl, rfl⟩, (by unfold befR; rw [if_pos h15, h15]; first | rfl | (rw [hval]; rfl) | (simp_all; done)), SubC.out⟩

end Go.Proofs.Ytekgkamjbnfgiaa
