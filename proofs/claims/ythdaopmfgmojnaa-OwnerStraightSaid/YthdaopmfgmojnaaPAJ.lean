/-
  A part of the proof of the claim that this folder bears.
-/
import Derived.Test.YthdaopmfgmojnaaPAI
/- The text OMain. -/
set_option linter.unusedVariables false
set_option linter.unusedSimpArgs false
namespace Go.Proofs.Ythdaopmfgmojnaa
open Go Go.KK Ow

theorem eqVr (x y : Vr) (w : World) : (Op.equal 63 (.agg (vrE.enc x).toArray) (.agg (vrE.enc y).toArray)).run Try.prog w = .ok (decide (x = y)) w := by
  have hu := run_underlying (P := Try.prog) Try.underlying63 w
  have hi : (sizeOf 3).run Try.prog w = .ok 1 w := run_sizeOf_of (by kernel_rfl)
  have hs := Scl.run (P := Try.prog) (t := 3) (w := w) (by kernel_rfl)
  have he := fun a b => run_equalIn_int (P := Try.prog) w 9998 3 .i64 .i64 a b Try.underlying3
  obtain ⟨a, b⟩ := x
  obtain ⟨c, d⟩ := y
  unfold Op.equal
  rw [show Op.maxDepth = 9999 + 1 from rfl, Op.equalIn.eq_def]
  simp only [vrE, Sem.run_bind, hu, hi, Result.andThen_ok]
  simp [Std.Legacy.Range.forIn_eq_forIn_range', List.range', part, hs, he]
  have e1 : ((a : Int) = c) = (a = c) := propext (by omega)
  have e2 : ((b : Int) = d) = (b = d) := propext (by omega)
  simp only [e1, e2]
  by_cases h1 : a = c <;> by_cases h2 : b = d <;> simp [h1, h2]
instance : EqE Try.prog 63 vrE := ⟨by kernel_rfl, eqVr⟩
section
variable {P : Program} {F : Fr} {L : List Asn} {dst : Option Tmp} {ty : TypeId} {pos : String} {aft : Array Edge} {gd : Option (Nat × Bool)}
theorem enc_extract {α : Type} (E : Enc α) {xs : List α} {j : Nat} {z : α} (hz : xs[j]? = some z) : (E.all xs).toArray.extract (j * E.m) (j * E.m + E.m) = (E.enc z).toArray := by
  have hl := E.len z
  have hj := (List.getElem?_eq_some_iff.1 hz).1
  have hle : j * E.m + E.m ≤ (E.all xs).length := by
    rw [E.all_len]
    have : (j + 1) * E.m ≤ xs.length * E.m := Nat.mul_le_mul_right _ hj
    rw [Nat.add_mul] at this; omega
  apply Array.ext
  · simp [hl]; omega
  · intro k h1 h2
    have hk : k < E.m := by simpa [hl] using h2
    have h3 := E.all_get xs j k z hz hk
    rw [List.getElem?_eq_getElem (by omega), List.getElem?_eq_getElem (by omega)] at h3
    simpa using Option.some.inj h3
theorem Pur.indexE {α : Type} {E : Enc α} {t n e m : Nat} [ha : ArT P t n e m] [hs : Agg P e m] {x ix : Operand} {xs : List α} {k : IntKind} {i : Int} {j : Nat} {z : α} (hx : ev F x = some (.agg (E.all xs).toArray)) (hi : ev F ix = some (.int k i)) (hij : i = (j : Int)) (hn : j < n) (hm : E.m = m) (hz : xs[j]? = some z) :
    Pur P F L ⟨dst, .index t x ix, ty, pos, aft, gd⟩ (.agg (E.enc z).toArray) := fun ρ w hρ _ => by
  have h := ha.out
  have h1 := Agg.run (w := w) hs.agg
  have h4 : (sizeOf e).run P w = .ok m w := run_sizeOf_of hs.size
  subst hij; subst hm
  have hx2 := enc_extract E hz
  unfold artB at h
  split at h
  · rename_i n' e' hu
    split at h
    · rename_i i' hi'
      simp only [Option.some.injEq, Prod.mk.injEq] at h
      obtain ⟨e1, e2, e3⟩ := h
      subst e1; subst e2
      have h3 : (sizeOf e').run P w = .ok i'.size w := run_sizeOf_of (by simp [hi'])
      have h0 : (0 : Int) ≤ (j : Int) := by omega
      have hn2 : (j : Int) < (n' : Int) := by omega
      rw [e3] at h3
      simp [execOp, Instr.index, hρ _ _ hx, hρ _ _ hi, asIntOf, hu, underlying, h0, hn2, h3, h4, part, h1, go_sem]
      rw [if_pos hn, show List.take E.m (List.drop (j * E.m) (E.all xs)) = E.enc z by simpa using congrArg Array.toList hx2]
    · cases h
  · cases h
theorem CellsIn.arrAll {α : Type} {E : Enc α} {b : Nat} {xs : List α} {r : List Value} {T : TypeId} [hb : BlkIn L b (KK.arr E xs r T)] : CellsIn L ⟨b, 0, none⟩ (E.all xs) := fun h hh j v hv => by
  have h1 := hb.out h hh
  have h3 := (List.getElem?_eq_some_iff.1 hv).1
  simp only [cellH, h1, KK.arr, Option.isSome_none, Bool.false_eq_true, if_false, List.getElem?_toArray, Nat.zero_add]
  rw [List.getElem?_append_left h3, hv]
end
def endV (xs : List Deed) (cs : List Bool) : Sx := if (runV xs cs).2.1 = sNone then dropK (runV xs cs).1 8 else (runV xs cs).1
def runR (xs : List Deed) (cs : List Bool) : Str × Int × Int := if validB xs = true then ((runV xs cs).2.1, (runV xs cs).2.2, 0) else (sNone, 0, 220)
def frV (xs : List Deed) (cs : List Bool) : List Int × Int := if validB xs = true then (fz (endV xs cs).freed, 0) else ([], 220)
def lk (al : List Bool) : Nat → List Int
  | 0 => []
  | n + 1 => lk al n ++ (if al.getD n false = true then [(n : Int)] else [])
theorem lk_len (al : List Bool) : ∀ n, (lk al n).length ≤ n
  | 0 => by simp [lk]
  | n + 1 => by have := lk_len al n; unfold lk; split <;> simp <;> omega
theorem lk_yes {al : List Bool} {n : Nat} (h : al.getD n false = true) : lk al (n + 1) = lk al n ++ [(n : Int)] := by rw [lk, if_pos h]
theorem lk_no {al : List Bool} {n : Nat} (h : al.getD n false = false) : lk al (n + 1) = lk al n := by rw [lk, if_neg (by rw [h]; simp), List.append_nil]
def lkV (xs : List Deed) (cs : List Bool) : List Int × Int := if validB xs = true then (lk (endV xs cs).alive (endV xs cs).alive.length, 0) else ([], 220)
def cn (vs : List Vr) (ob : Int) : Nat → Int
  | 0 => 0
  | k + 1 => cn vs ob k + if vs.getD k default = ⟨2, ob.toNat⟩ then 1 else 0
theorem cn_le (vs : List Vr) (ob : Int) : ∀ n, 0 ≤ cn vs ob n ∧ cn vs ob n ≤ n
  | 0 => by simp [cn]
  | n + 1 => by have := cn_le vs ob n; unfold cn; split <;> omega
def cnV (xs : List Deed) (cs : List Bool) (ob : Int) : Int × Int :=
  if validB xs = false then (0, 220) else if ¬ (runV xs cs).2.1 = sNone ∨ ob < 1 ∨ ((runV xs cs).1.alive.length : Int) ≤ ob then (0, 2) else (cn (runV xs cs).1.vars ob 8, 0)
def chV (xs : List Deed) : Int × Int := if validB xs = true then ((eithers xs : Nat), 0) else (0, 220)
def strV (xs : List Deed) (cs : List Bool) : List Deed × Int := if validB xs = true then ((wayV xs cs).steps.map (dd xs), 0) else ([], 220)
theorem endV_good {xs : List Deed} {cs : List Bool} (hv : ∃ o, vfold xs xs.length = some o) : Ow.Good (endV xs cs) := by
  unfold endV; split
  · exact good_dropK (runV_good hv) (Nat.le_refl _)
  · exact runV_good hv
theorem ended_ok {L : List Asn} {a b : Option Addr} {n cp m cq : Nat} {xs : List Deed} {cs : List Bool} [SlIn deedE L a xs] [SlIn boolE L b cs] (hn : n = xs.length) (hm : m = cs.length) (hb : xs.length ≤ 60) (hv : ∃ o, vfold xs xs.length = some o) :
    CallS Try.prog 43 [.slice a n cp, .slice b m cq].toArray L (fun v M => ∃ p aa' ca' ac' cc' af' cf', v = .pointer (some ⟨p, 0, none⟩) ∧ M = blk p (arr vrE (endV xs cs).vars [.slice aa' (endV xs cs).alive.length ca', .slice ac' (endV xs cs).count.length cc', .slice af' (fz (endV xs cs).freed).length cf'] 66) :: sl boolE aa' ca' (endV xs cs).alive :: sl intE ac' cc' (endV xs cs).count :: sl intE af' cf' (fz (endV xs cs).freed) :: L) := by
  subst hn
  subst hm
  refine CallS.ent ?_
  refine CallS.enter Try.func43 rfl rfl rfl rfl rfl ?_
  refine J.seq rfl ?_
  refine J.region rfl ?_
  refine JO.pur rfl rfl rfl (Pur.assign rfl) ?_
  refine JO.nil ?_
  refine J.seq rfl ?_
  refine J.region rfl ?_
  refine JO.pur rfl rfl rfl (Pur.move rfl) ?_
  refine JO.pur rfl rfl rfl (Pur.move rfl) ?_
  refine JO.eff rfl rfl rfl (Eff.call rfl (run_ok (xs := xs) (cs := cs) rfl rfl hb hv)) ?_
  rintro _ _ ⟨p, aa, ca, ac, cc, af, cf, rfl, rfl⟩
  refine JO.pur rfl rfl rfl (Pur.move rfl) ?_
  refine JO.pur rfl rfl rfl (Pur.extract rfl rfl) ?_
  refine JO.pur rfl rfl rfl (Pur.extract rfl rfl) ?_
  refine JO.pur rfl rfl rfl (Pur.extract rfl rfl) ?_
  refine JO.pur rfl rfl rfl (Pur.assign rfl) ?_
  refine JO.pur rfl rfl rfl (Pur.assign rfl) ?_
  refine JO.pur rfl rfl rfl (Pur.assign rfl) ?_
  refine JO.nil ?_
  refine J.seq rfl ?_
  refine J.seq rfl ?_
  refine J.region rfl ?_
  refine JO.pur rfl rfl rfl (Pur.move rfl) ?_
  refine JO.pur rfl rfl rfl (Pur.eqlT rfl rfl) ?_
  refine JO.nil ?_
  refine J.splitB 16 rfl (fun h16 => ?_) (fun h16 => ?_)
  · try simp only [decide_eq_true_eq, decide_eq_false_iff_not, Bool.not_eq_true', Bool.not_eq_false', Bool.and_eq_true, Bool.or_eq_true, Bool.and_eq_false_iff, Bool.or_eq_false_iff, Option.isNone_some, Option.isSome_some, Option.isNone_none, Option.isSome_none, Int.not_lt, Int.not_le, beq_iff_eq, beq_eq_false_iff_ne, bne_iff_ne, ne_eq, Bool.not_not, Decidable.not_not] at h16
    have hr : (runV xs cs).2.1 = sNone := h16
    refine J.condT rfl rfl ?_
    refine J.region rfl ?_
    refine JO.pur rfl rfl rfl (Pur.move rfl) ?_
    refine JO.eff rfl rfl rfl (Eff.call rfl (dropAll_ok (runV_good hv))) ?_
    rintro _ _ ⟨aa1, ca1, ac1, cc1, af1, cf1, rfl, rfl⟩
    refine JO.nil ?_
    refine J.seq rfl ?_
    refine J.region rfl ?_
    refine JO.pur rfl rfl rfl (Pur.move rfl) ?_
    refine JO.pur rfl rfl rfl (Pur.assign rfl) ?_
    refine JO.nil ?_
    refine J.ret rfl rfl ?_
    exact ⟨_, _, ⟨p, aa1, ca1, ac1, cc1, af1, cf1, rfl, rfl⟩, rfl, fun h s => by unfold endV; rw [if_pos hr]; exact SubC.out h s⟩
  · try simp only [decide_eq_true_eq, decide_eq_false_iff_not, Bool.not_eq_true', Bool.not_eq_false', Bool.and_eq_true, Bool.or_eq_true, Bool.and_eq_false_iff, Bool.or_eq_false_iff, Option.isNone_some, Option.isSome_some, Option.isNone_none, Option.isSome_none, Int.not_lt, Int.not_le, beq_iff_eq, beq_eq_false_iff_ne, bne_iff_ne, ne_eq, Bool.not_not, Decidable.not_not] at h16
    have hr : ¬ (runV xs cs).2.1 = sNone := h16
    refine J.condF rfl rfl ?_
    refine J.skip rfl ?_
    refine J.seq rfl ?_
    refine J.region rfl ?_
    refine JO.pur rfl rfl rfl (Pur.move rfl) ?_
    refine JO.pur rfl rfl rfl (Pur.assign rfl) ?_
    refine JO.nil ?_
    refine J.ret rfl rfl ?_
    exact ⟨_, _, ⟨p, aa, ca, ac, cc, af, cf, rfl, rfl⟩, rfl, fun h s => by unfold endV; rw [if_neg hr]; exact SubC.out h s⟩

theorem Run_ok {L : List Asn} {a b : Option Addr} {n cp m cq : Nat} {xs : List Deed} {cs : List Bool} [SlIn deedE L a xs] [SlIn boolE L b cs] (hn : n = xs.length) (hm : m = cs.length) (hb : xs.length ≤ 3000000000000) :
    CallS Try.prog 11 [.slice a n cp, .slice b m cq].toArray L (fun v M => v = .tuple #[.string (runR xs cs).1, .int .i64 (runR xs cs).2.1, .int .i64 (runR xs cs).2.2] ∧ M = L) := by
  subst hn
  subst hm
  refine CallS.ent ?_
  refine CallS.enter Try.func11 rfl rfl rfl rfl rfl ?_
  refine J.seq rfl ?_
  refine J.region rfl ?_
  refine JO.pur rfl rfl rfl (Pur.assign rfl) ?_
  refine JO.pur rfl rfl rfl (Pur.assign rfl) ?_
  refine JO.pur rfl rfl rfl (Pur.assign rfl) ?_
  refine JO.nil ?_
  refine J.seq rfl ?_
  refine J.seq rfl ?_
  refine J.region rfl ?_
  refine JO.pur rfl rfl rfl (Pur.move rfl) ?_
  refine JO.effR rfl rfl rfl (Eff.call rfl (valid_ok (xs := xs) rfl hb)) ?_
  refine JO.pur rfl rfl rfl (Pur.not rfl) ?_
  refine JO.nil ?_
  refine J.splitB 9 rfl (fun h9 => ?_) (fun h9 => ?_)
  · try simp only [decide_eq_true_eq, decide_eq_false_iff_not, Bool.not_eq_true', Bool.not_eq_false', Bool.and_eq_true, Bool.or_eq_true, Bool.and_eq_false_iff, Bool.or_eq_false_iff, Option.isNone_some, Option.isSome_some, Option.isNone_none, Option.isSome_none, Int.not_lt, Int.not_le, beq_iff_eq, beq_eq_false_iff_ne, bne_iff_ne, ne_eq, Bool.not_not, Decidable.not_not] at h9
    have hvb : ¬ validB xs = true := by simpa using h9
    refine J.condT rfl rfl ?_
    refine J.seq rfl ?_
    refine J.region rfl ?_
    refine JO.pur rfl rfl rfl (Pur.assign rfl) ?_
    refine JO.pur rfl rfl rfl (Pur.assign rfl) ?_
    refine JO.pur rfl rfl rfl (Pur.assign rfl) ?_
    refine JO.nil ?_
    refine J.ret rfl rfl ?_
    exact ⟨_, _, ⟨by unfold runR; rw [if_neg hvb]; rfl, rfl⟩, rfl, SubC.out⟩
  · try simp only [decide_eq_true_eq, decide_eq_false_iff_not, Bool.not_eq_true', Bool.not_eq_false', Bool.and_eq_true, Bool.or_eq_true, Bool.and_eq_false_iff, Bool.or_eq_false_iff, Option.isNone_some, Option.isSome_some, Option.isNone_none, Option.isSome_none, Int.not_lt, Int.not_le, beq_iff_eq, beq_eq_false_iff_ne, bne_iff_ne, ne_eq, Bool.not_not, Decidable.not_not] at h9
    have hvb : validB xs = true := by simpa using h9
    have hv := valid_open hvb
    have hb6 := valid_len hvb
    refine J.condF rfl rfl ?_
    refine J.skip rfl ?_
    refine J.seq rfl ?_
    refine J.region rfl ?_
    refine JO.pur rfl rfl rfl (Pur.move rfl) ?_
    refine JO.pur rfl rfl rfl (Pur.move rfl) ?_
    refine JO.eff rfl rfl rfl (Eff.call rfl (run_ok (xs := xs) (cs := cs) rfl rfl hb6 hv)) ?_
    rintro _ _ ⟨p, aa, ca, ac, cc, af, cf, rfl, rfl⟩
    refine JO.pur rfl rfl rfl (Pur.move rfl) ?_
    refine JO.pur rfl rfl rfl (Pur.extract rfl rfl) ?_
    refine JO.pur rfl rfl rfl (Pur.extract rfl rfl) ?_
    refine JO.pur rfl rfl rfl (Pur.extract rfl rfl) ?_
    refine JO.pur rfl rfl rfl (Pur.assign rfl) ?_
    refine JO.pur rfl rfl rfl (Pur.assign rfl) ?_
    refine JO.nil ?_
    refine J.seq rfl ?_
    refine J.region rfl ?_
    refine JO.pur rfl rfl rfl (Pur.move rfl) ?_
    refine JO.pur rfl rfl rfl (Pur.move rfl) ?_
    refine JO.pur rfl rfl rfl (Pur.assign rfl) ?_
    refine JO.pur rfl rfl rfl (Pur.assign rfl) ?_
    refine JO.pur rfl rfl rfl (Pur.assign rfl) ?_
    refine JO.nil ?_
    refine J.ret rfl rfl ?_
    exact ⟨_, _, ⟨by unfold runR; rw [if_pos hvb]; rfl, rfl⟩, rfl, SubC.out⟩

theorem Freed_ok {L : List Asn} {a b : Option Addr} {n cp m cq : Nat} {xs : List Deed} {cs : List Bool} [SlIn deedE L a xs] [SlIn boolE L b cs] (hn : n = xs.length) (hm : m = cs.length) (hb : xs.length ≤ 3000000000000) :
    CallS Try.prog 23 [.slice a n cp, .slice b m cq].toArray L (fun v M => ∃ a' c', v = .tuple #[.slice a' (frV xs cs).1.length c', .int .i64 (frV xs cs).2] ∧ M = sl intE a' c' (frV xs cs).1 :: L) := by
  subst hn
  subst hm
  refine CallS.ent ?_
  refine CallS.enter Try.func23 rfl rfl rfl rfl rfl ?_
  refine J.seq rfl ?_
  refine J.region rfl ?_
  refine JO.pur rfl rfl rfl (Pur.assign rfl) ?_
  refine JO.pur rfl rfl rfl (Pur.assign rfl) ?_
  refine JO.nil ?_
  refine J.seq rfl ?_
  refine J.seq rfl ?_
  refine J.region rfl ?_
  refine JO.pur rfl rfl rfl (Pur.move rfl) ?_
  refine JO.effR rfl rfl rfl (Eff.call rfl (valid_ok (xs := xs) rfl hb)) ?_
  refine JO.pur rfl rfl rfl (Pur.not rfl) ?_
  refine JO.nil ?_
  refine J.splitB 8 rfl (fun h8 => ?_) (fun h8 => ?_)
  · try simp only [decide_eq_true_eq, decide_eq_false_iff_not, Bool.not_eq_true', Bool.not_eq_false', Bool.and_eq_true, Bool.or_eq_true, Bool.and_eq_false_iff, Bool.or_eq_false_iff, Option.isNone_some, Option.isSome_some, Option.isNone_none, Option.isSome_none, Int.not_lt, Int.not_le, beq_iff_eq, beq_eq_false_iff_ne, bne_iff_ne, ne_eq, Bool.not_not, Decidable.not_not] at h8
    have hvb : ¬ validB xs = true := by simpa using h8
    refine J.condT rfl rfl ?_
    refine J.seq rfl ?_
    refine J.region rfl ?_
    refine JO.pur rfl rfl rfl (Pur.assign rfl) ?_
    refine JO.pur rfl rfl rfl (Pur.assign rfl) ?_
    refine JO.nil ?_
    refine J.ret rfl rfl ?_
    refine ⟨_, _, ⟨none, 0, by unfold frV; rw [if_neg hvb]; rfl, rfl⟩, rfl, fun h s => ?_⟩
    unfold frV; rw [if_neg hvb]
    exact sl_nil_new s
  · try simp only [decide_eq_true_eq, decide_eq_false_iff_not, Bool.not_eq_true', Bool.not_eq_false', Bool.and_eq_true, Bool.or_eq_true, Bool.and_eq_false_iff, Bool.or_eq_false_iff, Option.isNone_some, Option.isSome_some, Option.isNone_none, Option.isSome_none, Int.not_lt, Int.not_le, beq_iff_eq, beq_eq_false_iff_ne, bne_iff_ne, ne_eq, Bool.not_not, Decidable.not_not] at h8
    have hvb : validB xs = true := by simpa using h8
    have hv := valid_open hvb
    have hb6 := valid_len hvb
    refine J.condF rfl rfl ?_
    refine J.skip rfl ?_
    refine J.seq rfl ?_
    refine J.region rfl ?_
    refine JO.pur rfl rfl rfl (Pur.move rfl) ?_
    refine JO.pur rfl rfl rfl (Pur.move rfl) ?_
    refine JO.eff rfl rfl rfl (Eff.call rfl (ended_ok (xs := xs) (cs := cs) rfl rfl hb6 hv)) ?_
    rintro _ _ ⟨p, aa, ca, ac, cc, af, cf, rfl, rfl⟩
    refine JO.pur rfl rfl rfl (Pur.nilCheck rfl) ?_
    refine JO.pur rfl rfl rfl (Pur.fieldAddr rfl) ?_
    refine JO.pur rfl rfl rfl (Pur.load rfl (CellIn.arrT (n := 16) (k := 2) (by rw [(endV_good hv).v8]; rfl) rfl)) ?_
    refine JO.pur rfl rfl rfl (Pur.assign rfl) ?_
    refine JO.pur rfl rfl rfl (Pur.assign rfl) ?_
    refine JO.nil ?_
    refine J.ret rfl rfl ?_
    refine ⟨_, _, ⟨af, cf, by unfold frV; rw [if_pos hvb]; rfl, rfl⟩, rfl, fun h s => ?_⟩
    unfold frV; rw [if_pos hvb]
    exact SubC.out h s

set_option maxRecDepth 10000 in
theorem Leaks_ok {L : List Asn} {a b : Option Addr} {n cp m cq : Nat} {xs : List Deed} {cs : List Bool} [SlIn deedE L a xs] [SlIn boolE L b cs] (hn : n = xs.length) (hm : m = cs.length) (hb : xs.length ≤ 3000000000000) :
    CallS Try.prog 25 [.slice a n cp, .slice b m cq].toArray L (fun v M => ∃ a' c', v = .tuple #[.slice a' (lkV xs cs).1.length c', .int .i64 (lkV xs cs).2] ∧ M = sl intE a' c' (lkV xs cs).1 :: L) := by
  subst hn
  subst hm
  refine CallS.ent ?_
  refine CallS.enter Try.func25 rfl rfl rfl rfl rfl ?_
  refine J.seq rfl ?_
  refine J.region rfl ?_
  refine JO.pur rfl rfl rfl (Pur.assign rfl) ?_
  refine JO.pur rfl rfl rfl (Pur.assign rfl) ?_
  refine JO.nil ?_
  refine J.seq rfl ?_
  refine J.seq rfl ?_
  refine J.region rfl ?_
  refine JO.pur rfl rfl rfl (Pur.move rfl) ?_
  refine JO.effR rfl rfl rfl (Eff.call rfl (valid_ok (xs := xs) rfl hb)) ?_
  refine JO.pur rfl rfl rfl (Pur.not rfl) ?_
  refine JO.nil ?_
  refine J.splitB 11 rfl (fun h11 => ?_) (fun h11 => ?_)
  · try simp only [decide_eq_true_eq, decide_eq_false_iff_not, Bool.not_eq_true', Bool.not_eq_false', Bool.and_eq_true, Bool.or_eq_true, Bool.and_eq_false_iff, Bool.or_eq_false_iff, Option.isNone_some, Option.isSome_some, Option.isNone_none, Option.isSome_none, Int.not_lt, Int.not_le, beq_iff_eq, beq_eq_false_iff_ne, bne_iff_ne, ne_eq, Bool.not_not, Decidable.not_not] at h11
    have hvb : ¬ validB xs = true := by simpa using h11
    refine J.condT rfl rfl ?_
    refine J.seq rfl ?_
    refine J.region rfl ?_
    refine JO.pur rfl rfl rfl (Pur.assign rfl) ?_
    refine JO.pur rfl rfl rfl (Pur.assign rfl) ?_
    refine JO.nil ?_
    refine J.ret rfl rfl ?_
    refine ⟨_, _, ⟨none, 0, by unfold lkV; rw [if_neg hvb]; rfl, rfl⟩, rfl, fun h s => ?_⟩
    unfold lkV; rw [if_neg hvb]
    exact sl_nil_new s
  · try simp only [decide_eq_true_eq, decide_eq_false_iff_not, Bool.not_eq_true', Bool.not_eq_false', Bool.and_eq_true, Bool.or_eq_true, Bool.and_eq_false_iff, Bool.or_eq_false_iff, Option.isNone_some, Option.isSome_some, Option.isNone_none, Option.isSome_none, Int.not_lt, Int.not_le, beq_iff_eq, beq_eq_false_iff_ne, bne_iff_ne, ne_eq, Bool.not_not, Decidable.not_not] at h11
    have hvb : validB xs = true := by simpa using h11
    have hv := valid_open hvb
    have hb6 := valid_len hvb
    have gE := endV_good (cs := cs) hv
    have hE21 := gE.n21
    refine J.condF rfl rfl ?_
    refine J.skip rfl ?_
    refine J.seq rfl ?_
    refine J.region rfl ?_
    refine JO.pur rfl rfl rfl (Pur.assign rfl) ?_
    refine JO.nil ?_
    refine J.seq rfl ?_
    refine J.seq rfl ?_
    refine J.region rfl ?_
    refine JO.pur rfl rfl rfl (Pur.move rfl) ?_
    refine JO.pur rfl rfl rfl (Pur.move rfl) ?_
    refine JO.eff rfl rfl rfl (Eff.call rfl (ended_ok (xs := xs) (cs := cs) rfl rfl hb6 hv)) ?_
    rintro _ _ ⟨p, aa, ca, ac, cc, af, cf, rfl, rfl⟩
    refine JO.pur rfl rfl rfl (Pur.nilCheck rfl) ?_
    refine JO.pur rfl rfl rfl (Pur.fieldAddr rfl) ?_
    refine JO.pur rfl rfl rfl (Pur.load rfl (CellIn.arrT (n := 16) (k := 0) (by rw [gE.v8]; rfl) rfl)) ?_
    refine JO.pur rfl rfl rfl (Pur.len rfl) ?_
    refine JO.pur rfl rfl rfl (Pur.move rfl) ?_
    refine JO.nil ?_
    refine J.block rfl ?_
    refine J.loopF (ι := Nat × Option Addr × Nat) (fun q => q.1 ≤ (endV xs cs).alive.length) (fun q => [(6, .slice q.2.1 (lk (endV xs cs).alive q.1).length q.2.2), (19, .int .i64 (q.1 : Int))]) [(17, _), (18, _)] (fun q => sl intE q.2.1 q.2.2 (lk (endV xs cs).alive q.1) :: blk p (arr vrE (endV xs cs).vars [.slice aa (endV xs cs).alive.length ca, .slice ac (endV xs cs).count.length cc, .slice af (fz (endV xs cs).freed).length cf] 66) :: sl boolE aa ca (endV xs cs).alive :: sl intE ac cc (endV xs cs).count :: sl intE af cf (fz (endV xs cs).freed) :: L) (fun q => (endV xs cs).alive.length - q.1) (0, none, 0) rfl (.cons rfl rfl (.cons rfl rfl .nil)) (.cons rfl rfl (.cons rfl rfl .nil)) (fun h s => by dsimp only; rw [show lk (endV xs cs).alive 0 = [] from rfl]; exact SubC.out h (sl_nil_new (E := intE) s)) (Nat.zero_le _) ?_
    rintro ⟨i, a6, c6⟩ hi ih0
    try dsimp only
    dsimp only at hi
    have hlk := lk_len (endV xs cs).alive i
    refine J.seq rfl ?_
    refine J.region rfl ?_
    refine JO.pur rfl rfl rfl (Pur.lss rfl rfl) ?_
    refine JO.nil ?_
    refine J.seq rfl ?_
    refine J.splitB 20 rfl (fun h20 => ?_) (fun h20 => ?_)
    · try simp only [decide_eq_true_eq, decide_eq_false_iff_not, Bool.not_eq_true', Bool.not_eq_false', Bool.and_eq_true, Bool.or_eq_true, Bool.and_eq_false_iff, Bool.or_eq_false_iff, Option.isNone_some, Option.isSome_some, Option.isNone_none, Option.isSome_none, Int.not_lt, Int.not_le, beq_iff_eq, beq_eq_false_iff_ne, bne_iff_ne, ne_eq, Bool.not_not, Decidable.not_not] at h20
      have hil : i < (endV xs cs).alive.length := by omega
      refine J.condT rfl rfl ?_
      refine J.skip rfl ?_
      refine J.seq rfl ?_
      refine J.block rfl ?_
      refine J.seq rfl ?_
      refine J.region rfl ?_
      refine JO.pur rfl rfl rfl (Pur.move rfl) ?_
      refine JO.pur rfl rfl rfl (Pur.idx rfl rfl rfl (by first | rfl | (simp; done) | omega) rfl hil) ?_
      refine JO.pur rfl rfl rfl (Pur.load rfl (CellIn.el0 rfl (getD_get (d := false) hil) rfl)) ?_
      refine JO.pur rfl rfl rfl (Pur.assign rfl) ?_
      refine JO.pur rfl rfl rfl (Pur.assign rfl) ?_
      refine JO.nil ?_
      refine J.seq rfl ?_
      refine J.region rfl ?_
      refine JO.pur rfl rfl rfl (Pur.move rfl) ?_
      refine JO.nil ?_
      refine J.splitB 24 rfl (fun h24 => ?_) (fun h24 => ?_)
      · try simp only [decide_eq_true_eq, decide_eq_false_iff_not, Bool.not_eq_true', Bool.not_eq_false', Bool.and_eq_true, Bool.or_eq_true, Bool.and_eq_false_iff, Bool.or_eq_false_iff, Option.isNone_some, Option.isSome_some, Option.isNone_none, Option.isSome_none, Int.not_lt, Int.not_le, beq_iff_eq, beq_eq_false_iff_ne, bne_iff_ne, ne_eq, Bool.not_not, Decidable.not_not] at h24
        have hal : (endV xs cs).alive.getD i false = true := by simpa using h24
        refine J.condT rfl rfl ?_
        refine J.region rfl ?_
        refine JO.pur rfl rfl rfl (Pur.move rfl) ?_
        refine JO.pur rfl rfl rfl (Pur.move rfl) ?_
        refine JO.eff rfl rfl rfl (Eff.buildSlice intE [(i : Int)] rfl rfl rfl rfl rfl rfl rfl) ?_
        rintro _ _ ⟨b27, rfl, -, rfl⟩
        refine JO.eff rfl rfl rfl (Eff.append rfl rfl rfl rfl (by first | rfl | omega | (simp; done) | (simp; omega)) (by first | rfl | omega | (simp; done) | (simp; omega)) (by decide) (by first | omega | (simp only [List.length_cons, List.length_nil]; omega) | (simp; omega)) (by first | omega | (simp only [List.length_cons, List.length_nil]; omega) | (simp; omega)) (fun h => by cases h)) ?_
        rintro _ _ ⟨a28, c28, rfl, rfl⟩
        refine JO.pur rfl rfl rfl (Pur.assign rfl) ?_
        refine JO.nil ?_
        refine J.inBlock ?_
        refine J.region rfl ?_
        refine JO.pur rfl rfl rfl (Pur.add rfl rfl (wr64 (by omega))) ?_
        refine JO.pur rfl rfl rfl (Pur.move rfl) ?_
        refine JO.nil ?_
        exact J.weaken (.cons rfl (by dsimp only; rw [lk_yes hal, List.length_append]) (.cons rfl (congrArg (Value.int .i64) (by dsimp only; omega)) (.cons rfl rfl (.cons rfl rfl .nil)))) (fun h s => by dsimp only; rw [lk_yes hal]; exact SubC.out h s) (ih0 (i + 1, a28, c28) (by dsimp only; omega) (by dsimp only; omega))
      · try simp only [decide_eq_true_eq, decide_eq_false_iff_not, Bool.not_eq_true', Bool.not_eq_false', Bool.and_eq_true, Bool.or_eq_true, Bool.and_eq_false_iff, Bool.or_eq_false_iff, Option.isNone_some, Option.isSome_some, Option.isNone_none, Option.isSome_none, Int.not_lt, Int.not_le, beq_iff_eq, beq_eq_false_iff_ne, bne_iff_ne, ne_eq, Bool.not_not, Decidable.not_not] at h24
        have hal : (endV xs cs).alive.getD i false = false := by simpa using h24
        refine J.condF rfl rfl ?_
        refine J.skip rfl ?_
        refine J.inBlock ?_
        refine J.region rfl ?_
        refine JO.pur rfl rfl rfl (Pur.add rfl rfl (wr64 (by omega))) ?_
        refine JO.pur rfl rfl rfl (Pur.move rfl) ?_
        refine JO.nil ?_
        exact J.weaken (.cons rfl (by dsimp only; rw [lk_no hal]) (.cons rfl (congrArg (Value.int .i64) (by dsimp only; omega)) (.cons rfl rfl (.cons rfl rfl .nil)))) (fun h s => by dsimp only; rw [lk_no hal]; exact SubC.out h s) (ih0 (i + 1, a6, c6) (by dsimp only; omega) (by dsimp only; omega))
    · try simp only [decide_eq_true_eq, decide_eq_false_iff_not, Bool.not_eq_true', Bool.not_eq_false', Bool.and_eq_true, Bool.or_eq_true, Bool.and_eq_false_iff, Bool.or_eq_false_iff, Option.isNone_some, Option.isSome_some, Option.isNone_none, Option.isSome_none, Int.not_lt, Int.not_le, beq_iff_eq, beq_eq_false_iff_ne, bne_iff_ne, ne_eq, Bool.not_not, Decidable.not_not] at h20
      refine J.condF rfl rfl ?_
      refine J.exit rfl rfl ?_
      refine J.seq rfl ?_
      refine J.region rfl ?_
      refine JO.pur rfl rfl rfl (Pur.move rfl) ?_
      refine JO.pur rfl rfl rfl (Pur.assign rfl) ?_
      refine JO.pur rfl rfl rfl (Pur.assign rfl) ?_
      refine JO.nil ?_
      refine J.ret rfl rfl ?_
      obtain rfl : i = (endV xs cs).alive.length := by omega
      refine ⟨_, _, ⟨a6, c6, by unfold lkV; rw [if_pos hvb]; rfl, rfl⟩, rfl, fun h s => ?_⟩
      unfold lkV; rw [if_pos hvb]
      exact SubC.out h s

theorem Choices_ok {L : List Asn} {a : Option Addr} {n cp : Nat} {xs : List Deed} [SlIn deedE L a xs] (hn : n = xs.length) (hb : xs.length ≤ 3000000000000) :
    CallS Try.prog 28 [.slice a n cp].toArray L (fun v M => v = .tuple #[.int .i64 (chV xs).1, .int .i64 (chV xs).2] ∧ M = L) := by
  subst hn
  refine CallS.ent ?_
  refine CallS.enter Try.func28 rfl rfl rfl rfl rfl ?_
  refine J.seq rfl ?_
  refine J.region rfl ?_
  refine JO.pur rfl rfl rfl (Pur.assign rfl) ?_
  refine JO.pur rfl rfl rfl (Pur.assign rfl) ?_
  refine JO.nil ?_
  refine J.seq rfl ?_
  refine J.seq rfl ?_
  refine J.region rfl ?_
  refine JO.pur rfl rfl rfl (Pur.move rfl) ?_
  refine JO.effR rfl rfl rfl (Eff.call rfl (valid_ok (xs := xs) rfl hb)) ?_
  refine JO.pur rfl rfl rfl (Pur.not rfl) ?_
  refine JO.nil ?_
  refine J.splitB 9 rfl (fun h9 => ?_) (fun h9 => ?_)
  · try simp only [decide_eq_true_eq, decide_eq_false_iff_not, Bool.not_eq_true', Bool.not_eq_false', Bool.and_eq_true, Bool.or_eq_true, Bool.and_eq_false_iff, Bool.or_eq_false_iff, Option.isNone_some, Option.isSome_some, Option.isNone_none, Option.isSome_none, Int.not_lt, Int.not_le, beq_iff_eq, beq_eq_false_iff_ne, bne_iff_ne, ne_eq, Bool.not_not, Decidable.not_not] at h9
    have hvb : ¬ validB xs = true := by simpa using h9
    refine J.condT rfl rfl ?_
    refine J.seq rfl ?_
    refine J.region rfl ?_
    refine JO.pur rfl rfl rfl (Pur.assign rfl) ?_
    refine JO.pur rfl rfl rfl (Pur.assign rfl) ?_
    refine JO.nil ?_
    refine J.ret rfl rfl ?_
    exact ⟨_, _, ⟨by unfold chV; rw [if_neg hvb]; rfl, rfl⟩, rfl, SubC.out⟩
  · try simp only [decide_eq_true_eq, decide_eq_false_iff_not, Bool.not_eq_true', Bool.not_eq_false', Bool.and_eq_true, Bool.or_eq_true, Bool.and_eq_false_iff, Bool.or_eq_false_iff, Option.isNone_some, Option.isSome_some, Option.isNone_none, Option.isSome_none, Int.not_lt, Int.not_le, beq_iff_eq, beq_eq_false_iff_ne, bne_iff_ne, ne_eq, Bool.not_not, Decidable.not_not] at h9
    have hvb : validB xs = true := by simpa using h9
    have hv := valid_open hvb
    have hb6 := valid_len hvb
    refine J.condF rfl rfl ?_
    refine J.skip rfl ?_
    refine J.seq rfl ?_
    refine J.region rfl ?_
    refine JO.pur rfl rfl rfl (Pur.assign rfl) ?_
    refine JO.nil ?_
    refine J.seq rfl ?_
    refine J.seq rfl ?_
    refine J.region rfl ?_
    refine JO.pur rfl rfl rfl (Pur.move rfl) ?_
    refine JO.pur rfl rfl rfl (Pur.len rfl) ?_
    refine JO.pur rfl rfl rfl (Pur.move rfl) ?_
    refine JO.nil ?_
    refine J.block rfl ?_
    refine J.loopF (ι := Nat) (fun q => q ≤ xs.length) (fun q => [(4, .int .i64 (eithers (xs.take q) : Nat)), (12, .int .i64 (q : Int))]) [(10, _), (11, _)] (fun q => L) (fun q => xs.length - q) 0 rfl (.cons rfl rfl (.cons rfl rfl .nil)) (.cons rfl rfl (.cons rfl rfl .nil)) (by first | exact fun _ h => h | exact SubC.out | (dsimp only; exact SubC.out)) (Nat.zero_le _) ?_
    rintro i hi ih0
    try dsimp only
    have hel := eith_le xs i
    refine J.seq rfl ?_
    refine J.region rfl ?_
    refine JO.pur rfl rfl rfl (Pur.lss rfl rfl) ?_
    refine JO.nil ?_
    refine J.seq rfl ?_
    refine J.splitB 13 rfl (fun h13 => ?_) (fun h13 => ?_)
    · try simp only [decide_eq_true_eq, decide_eq_false_iff_not, Bool.not_eq_true', Bool.not_eq_false', Bool.and_eq_true, Bool.or_eq_true, Bool.and_eq_false_iff, Bool.or_eq_false_iff, Option.isNone_some, Option.isSome_some, Option.isNone_none, Option.isSome_none, Int.not_lt, Int.not_le, beq_iff_eq, beq_eq_false_iff_ne, bne_iff_ne, ne_eq, Bool.not_not, Decidable.not_not] at h13
      have hil : i < xs.length := by omega
      refine J.condT rfl rfl ?_
      refine J.skip rfl ?_
      refine J.seq rfl ?_
      refine J.block rfl ?_
      refine J.seq rfl ?_
      refine J.region rfl ?_
      refine JO.pur rfl rfl rfl (Pur.idx rfl rfl rfl (by first | rfl | (simp; done) | omega) rfl hil) ?_
      refine JO.pur rfl rfl rfl (Pur.loadA rfl rfl rfl (CellsIn.el rfl (dd_get hil))) ?_
      refine JO.eff rfl rfl rfl (Eff.alloc (cs := [_, _, _]) rfl) ?_
      rintro _ _ ⟨b6, rfl, rfl⟩
      refine JO.effN rfl rfl (Eff.storeBA (cs' := [_, _, _]) rfl rfl (by rfl) (by rfl) (by rfl)) ?_
      rintro _ _ ⟨rfl, rfl⟩
      refine JO.nil ?_
      refine J.seq rfl ?_
      refine J.region rfl ?_
      refine JO.pur rfl rfl rfl (Pur.fieldAddr rfl) ?_
      refine JO.pur rfl rfl rfl (Pur.load rfl (CellIn.blk rfl)) ?_
      refine JO.pur rfl rfl rfl (Pur.eqlT rfl rfl) ?_
      refine JO.nil ?_
      refine J.splitB 18 rfl (fun h18 => ?_) (fun h18 => ?_)
      · try simp only [decide_eq_true_eq, decide_eq_false_iff_not, Bool.not_eq_true', Bool.not_eq_false', Bool.and_eq_true, Bool.or_eq_true, Bool.and_eq_false_iff, Bool.or_eq_false_iff, Option.isNone_some, Option.isSome_some, Option.isNone_none, Option.isSome_none, Int.not_lt, Int.not_le, beq_iff_eq, beq_eq_false_iff_ne, bne_iff_ne, ne_eq, Bool.not_not, Decidable.not_not] at h18
        refine J.condT rfl rfl ?_
        refine J.region rfl ?_
        refine JO.pur rfl rfl rfl (Pur.move rfl) ?_
        refine JO.pur rfl rfl rfl (Pur.add rfl rfl (wr64 (by omega))) ?_
        refine JO.pur rfl rfl rfl (Pur.assign rfl) ?_
        refine JO.nil ?_
        refine J.inBlock ?_
        refine J.region rfl ?_
        refine JO.pur rfl rfl rfl (Pur.add rfl rfl (wr64 (by omega))) ?_
        refine JO.pur rfl rfl rfl (Pur.move rfl) ?_
        refine JO.nil ?_
        exact J.weaken (.cons rfl (congrArg (Value.int .i64) (by rw [eith_next hil, if_pos (show (dd xs i).act = sEither from h18)]; omega)) (.cons rfl (congrArg (Value.int .i64) (by omega)) (.cons rfl rfl (.cons rfl rfl .nil)))) (by first | exact fun _ h => h | exact SubC.out | (dsimp only; exact SubC.out)) (ih0 (i + 1) (by omega) (by omega))
      · try simp only [decide_eq_true_eq, decide_eq_false_iff_not, Bool.not_eq_true', Bool.not_eq_false', Bool.and_eq_true, Bool.or_eq_true, Bool.and_eq_false_iff, Bool.or_eq_false_iff, Option.isNone_some, Option.isSome_some, Option.isNone_none, Option.isSome_none, Int.not_lt, Int.not_le, beq_iff_eq, beq_eq_false_iff_ne, bne_iff_ne, ne_eq, Bool.not_not, Decidable.not_not] at h18
        refine J.condF rfl rfl ?_
        refine J.skip rfl ?_
        refine J.inBlock ?_
        refine J.region rfl ?_
        refine JO.pur rfl rfl rfl (Pur.add rfl rfl (wr64 (by omega))) ?_
        refine JO.pur rfl rfl rfl (Pur.move rfl) ?_
        refine JO.nil ?_
        exact J.weaken (.cons rfl (congrArg (Value.int .i64) (by rw [eith_next hil, if_neg (show ¬ (dd xs i).act = sEither from h18)]; omega)) (.cons rfl (congrArg (Value.int .i64) (by omega)) (.cons rfl rfl (.cons rfl rfl .nil)))) (by first | exact fun _ h => h | exact SubC.out | (dsimp only; exact SubC.out)) (ih0 (i + 1) (by omega) (by omega))
    · try simp only [decide_eq_true_eq, decide_eq_false_iff_not, Bool.not_eq_true', Bool.not_eq_false', Bool.and_eq_true, Bool.or_eq_true, Bool.and_eq_false_iff, Bool.or_eq_false_iff, Option.isNone_some, Option.isSome_some, Option.isNone_none, Option.isSome_none, Int.not_lt, Int.not_le, beq_iff_eq, beq_eq_false_iff_ne, bne_iff_ne, ne_eq, Bool.not_not, Decidable.not_not] at h13
      refine J.condF rfl rfl ?_
      refine J.exit rfl rfl ?_
      refine J.seq rfl ?_
      refine J.region rfl ?_
      refine JO.pur rfl rfl rfl (Pur.move rfl) ?_
      refine JO.pur rfl rfl rfl (Pur.assign rfl) ?_
      refine JO.pur rfl rfl rfl (Pur.assign rfl) ?_
      refine JO.nil ?_
      refine J.ret rfl rfl ?_
      obtain rfl : i = xs.length := by omega
      exact ⟨_, _, ⟨by unfold chV; rw [if_pos hvb, List.take_length]; rfl, rfl⟩, rfl, SubC.out⟩

set_option maxRecDepth 10000 in
theorem Straight_ok {L : List Asn} {a b : Option Addr} {n cp m cq : Nat} {xs : List Deed} {cs : List Bool} [SlIn deedE L a xs] [SlIn boolE L b cs] (hn : n = xs.length) (hm : m = cs.length) (hb : xs.length ≤ 3000000000000) :
    CallS Try.prog 32 [.slice a n cp, .slice b m cq].toArray L (fun v M => ∃ a' c', v = .tuple #[.slice a' (strV xs cs).1.length c', .int .i64 (strV xs cs).2] ∧ M = sl deedE a' c' (strV xs cs).1 :: L) := by
  subst hn
  subst hm
  refine CallS.ent ?_
  refine CallS.enter Try.func32 rfl rfl rfl rfl rfl ?_
  refine J.seq rfl ?_
  refine J.region rfl ?_
  refine JO.pur rfl rfl rfl (Pur.assign rfl) ?_
  refine JO.pur rfl rfl rfl (Pur.assign rfl) ?_
  refine JO.nil ?_
  refine J.seq rfl ?_
  refine J.seq rfl ?_
  refine J.region rfl ?_
  refine JO.pur rfl rfl rfl (Pur.move rfl) ?_
  refine JO.effR rfl rfl rfl (Eff.call rfl (valid_ok (xs := xs) rfl hb)) ?_
  refine JO.pur rfl rfl rfl (Pur.not rfl) ?_
  refine JO.nil ?_
  refine J.splitB 13 rfl (fun h13 => ?_) (fun h13 => ?_)
  · try simp only [decide_eq_true_eq, decide_eq_false_iff_not, Bool.not_eq_true', Bool.not_eq_false', Bool.and_eq_true, Bool.or_eq_true, Bool.and_eq_false_iff, Bool.or_eq_false_iff, Option.isNone_some, Option.isSome_some, Option.isNone_none, Option.isSome_none, Int.not_lt, Int.not_le, beq_iff_eq, beq_eq_false_iff_ne, bne_iff_ne, ne_eq, Bool.not_not, Decidable.not_not] at h13
    have hvb : ¬ validB xs = true := by simpa using h13
    refine J.condT rfl rfl ?_
    refine J.seq rfl ?_
    refine J.region rfl ?_
    refine JO.pur rfl rfl rfl (Pur.assign rfl) ?_
    refine JO.pur rfl rfl rfl (Pur.assign rfl) ?_
    refine JO.nil ?_
    refine J.ret rfl rfl ?_
    refine ⟨_, _, ⟨none, 0, by unfold strV; rw [if_neg hvb]; rfl, rfl⟩, rfl, fun h s => ?_⟩
    unfold strV; rw [if_neg hvb]
    exact sl_nil_new s
  · try simp only [decide_eq_true_eq, decide_eq_false_iff_not, Bool.not_eq_true', Bool.not_eq_false', Bool.and_eq_true, Bool.or_eq_true, Bool.and_eq_false_iff, Bool.or_eq_false_iff, Option.isNone_some, Option.isSome_some, Option.isNone_none, Option.isSome_none, Int.not_lt, Int.not_le, beq_iff_eq, beq_eq_false_iff_ne, bne_iff_ne, ne_eq, Bool.not_not, Decidable.not_not] at h13
    have hvb : validB xs = true := by simpa using h13
    have hv := valid_open hvb
    have hb6 := valid_len hvb
    refine J.condF rfl rfl ?_
    refine J.skip rfl ?_
    refine J.seq rfl ?_
    refine J.region rfl ?_
    refine JO.pur rfl rfl rfl (Pur.assign rfl) ?_
    refine JO.nil ?_
    refine J.seq rfl ?_
    refine J.region rfl ?_
    refine JO.pur rfl rfl rfl (Pur.move rfl) ?_
    refine JO.pur rfl rfl rfl (Pur.move rfl) ?_
    refine JO.eff rfl rfl rfl (Eff.call rfl (way_ok (xs := xs) (cs := cs) rfl rfl hb6 hv)) ?_
    rintro _ _ ⟨a7, c7, a8, c8, rfl, rfl⟩
    refine JO.pur rfl rfl rfl (Pur.move rfl) ?_
    refine JO.pur rfl rfl rfl (Pur.extract rfl rfl) ?_
    refine JO.pur rfl rfl rfl (Pur.extract rfl rfl) ?_
    refine JO.pur rfl rfl rfl (Pur.assign rfl) ?_
    refine JO.pur rfl rfl rfl (Pur.assign rfl) ?_
    refine JO.nil ?_
    refine J.seq rfl ?_
    refine J.seq rfl ?_
    obtain ⟨S, hS⟩ : ∃ S, S = (wayV xs cs).steps := ⟨_, rfl⟩
    rw [← hS]
    have hSl := sp_len xs S
    have hS60 : S.length ≤ 60 := by rw [hS]; exact Nat.le_trans (wlen (Nat.le_refl _)).1 hb6
    refine J.region rfl ?_
    refine JO.pur rfl rfl rfl (Pur.move rfl) ?_
    refine JO.pur rfl rfl rfl (Pur.len rfl) ?_
    refine JO.pur rfl rfl rfl (Pur.move rfl) ?_
    refine JO.nil ?_
    refine J.block rfl ?_
    refine J.loopF (ι := Nat × Option Addr × Nat) (fun q => q.1 ≤ S.length) (fun q => [(6, .slice q.2.1 q.1 q.2.2), (22, .int .i64 (q.1 : Int))]) [(20, _), (21, _)] (fun q => sl deedE q.2.1 q.2.2 ((S.take q.1).map (dd xs)) :: sl stepE a7 c7 (sp xs S) :: sl intE a8 c8 (fz (wayV xs cs).met) :: L) (fun q => S.length - q.1) (0, none, 0) rfl (.cons rfl rfl (.cons rfl rfl .nil)) (.cons rfl rfl (.cons rfl rfl .nil)) (fun h s => by dsimp only; rw [List.take_zero, List.map_nil]; exact SubC.out h (sl_nil_new (E := deedE) s)) (Nat.zero_le _) ?_
    rintro ⟨k, a6, c6⟩ hk ih0
    try dsimp only
    dsimp only at hk
    refine J.seq rfl ?_
    refine J.region rfl ?_
    refine JO.pur rfl rfl rfl (Pur.lss rfl rfl) ?_
    refine JO.nil ?_
    refine J.seq rfl ?_
    refine J.splitB 23 rfl (fun h23 => ?_) (fun h23 => ?_)
    · try simp only [decide_eq_true_eq, decide_eq_false_iff_not, Bool.not_eq_true', Bool.not_eq_false', Bool.and_eq_true, Bool.or_eq_true, Bool.and_eq_false_iff, Bool.or_eq_false_iff, Option.isNone_some, Option.isSome_some, Option.isNone_none, Option.isSome_none, Int.not_lt, Int.not_le, beq_iff_eq, beq_eq_false_iff_ne, bne_iff_ne, ne_eq, Bool.not_not, Decidable.not_not] at h23
      have hkl : k < S.length := by omega
      obtain ⟨j, hj⟩ : ∃ j, S[k]? = some j := ⟨_, List.getElem?_eq_getElem hkl⟩
      have hx : (sp xs S)[k]? = some (dd xs j, j) := by unfold sp; rw [List.getElem?_map, hj]; rfl
      have htl : ((S.take k).map (dd xs)).length = k := by simp; omega
      refine J.condT rfl rfl ?_
      refine J.skip rfl ?_
      refine J.seq rfl ?_
      refine J.block rfl ?_
      refine J.seq rfl ?_
      refine J.region rfl ?_
      refine JO.pur rfl rfl rfl (Pur.idx rfl rfl rfl (by first | rfl | (simp; done) | omega) rfl (by omega)) ?_
      refine JO.pur rfl rfl rfl (Pur.loadA rfl rfl rfl (CellsIn.el rfl hx)) ?_
      refine JO.eff rfl rfl rfl (Eff.alloc (cs := [_, _, _, _]) rfl) ?_
      rintro _ _ ⟨b10, rfl, rfl⟩
      refine JO.effN rfl rfl (Eff.storeBA (cs' := [_, _, _, _]) rfl rfl (by rfl) (by rfl) (by rfl)) ?_
      rintro _ _ ⟨rfl, rfl⟩
      refine JO.nil ?_
      refine J.region rfl ?_
      refine JO.pur rfl rfl rfl (Pur.move rfl) ?_
      refine JO.pur rfl rfl rfl (Pur.fieldAddr rfl) ?_
      refine JO.pur rfl rfl rfl (Pur.loadA rfl rfl rfl (CellsIn.blkP (ds := [_, _, _]) (by exact ⟨[_], rfl⟩))) ?_
      refine JO.eff rfl rfl rfl (Eff.buildSlice deedE [dd xs j] rfl rfl rfl rfl rfl rfl rfl) ?_
      rintro _ _ ⟨b29, rfl, -, rfl⟩
      refine JO.eff rfl rfl rfl (Eff.append rfl rfl rfl rfl (by first | rfl | omega | (simp; done) | (simp; omega)) (by first | rfl | omega | (simp; done) | (simp; omega)) (by decide) (by first | omega | (simp only [List.length_cons, List.length_nil]; omega) | (simp; omega)) (by first | omega | (simp only [List.length_cons, List.length_nil]; omega) | (simp; omega)) (fun h => by cases h)) ?_
      rintro _ _ ⟨a30, c30, rfl, rfl⟩
      refine JO.pur rfl rfl rfl (Pur.assign rfl) ?_
      refine JO.nil ?_
      refine J.inBlock ?_
      refine J.region rfl ?_
      refine JO.pur rfl rfl rfl (Pur.add rfl rfl (wr64 (by omega))) ?_
      refine JO.pur rfl rfl rfl (Pur.move rfl) ?_
      refine JO.nil ?_
      exact J.weaken (.cons rfl (by dsimp only; rw [htl]; rfl) (.cons rfl (congrArg (Value.int .i64) (by dsimp only; omega)) (.cons rfl rfl (.cons rfl rfl .nil)))) (fun h s => by dsimp only; rw [List.take_add_one, hj]; rw [List.map_append, show List.map (dd xs) (some j).toList = [dd xs j] from rfl]; exact SubC.out h s) (ih0 (k + 1, a30, c30) (by dsimp only; omega) (by dsimp only; omega))
    · try simp only [decide_eq_true_eq, decide_eq_false_iff_not, Bool.not_eq_true', Bool.not_eq_false', Bool.and_eq_true, Bool.or_eq_true, Bool.and_eq_false_iff, Bool.or_eq_false_iff, Option.isNone_some, Option.isSome_some, Option.isNone_none, Option.isSome_none, Int.not_lt, Int.not_le, beq_iff_eq, beq_eq_false_iff_ne, bne_iff_ne, ne_eq, Bool.not_not, Decidable.not_not] at h23
      refine J.condF rfl rfl ?_
      refine J.exit rfl rfl ?_
      refine J.seq rfl ?_
      refine J.region rfl ?_
      refine JO.pur rfl rfl rfl (Pur.move rfl) ?_
      refine JO.pur rfl rfl rfl (Pur.assign rfl) ?_
      refine JO.pur rfl rfl rfl (Pur.assign rfl) ?_
      refine JO.nil ?_
      refine J.ret rfl rfl ?_
      obtain rfl : k = S.length := by omega
      have hsm : (wayV xs cs).steps.map (dd xs) = S.map (dd xs) := by rw [hS]
      refine ⟨_, _, ⟨a6, c6, by unfold strV; rw [if_pos hvb, hsm, List.length_map]; rfl, rfl⟩, rfl, fun h s => ?_⟩
      unfold strV; rw [if_pos hvb, hsm]
      rw [List.take_length] at s
      exact SubC.out h s

set_option maxRecDepth 10000 in
theorem Count_ok {L : List Asn} {a b : Option Addr} {n cp m cq : Nat} {xs : List Deed} {cs : List Bool} [SlIn deedE L a xs] [SlIn boolE L b cs] (hn : n = xs.length) (hm : m = cs.length) (hb : xs.length ≤ 3000000000000) {ob : Int} :
    CallS Try.prog 21 [.slice a n cp, .slice b m cq, .int .i64 ob].toArray L (fun v M => v = .tuple #[.int .i64 (cnV xs cs ob).1, .int .i64 (cnV xs cs ob).2] ∧ M = L) := by
  subst hn
  subst hm
  refine CallS.ent ?_
  refine CallS.enter Try.func21 rfl rfl rfl rfl rfl ?_
  refine J.seq rfl ?_
  refine J.region rfl ?_
  refine JO.pur rfl rfl rfl (Pur.assign rfl) ?_
  refine JO.pur rfl rfl rfl (Pur.assign rfl) ?_
  refine JO.nil ?_
  refine J.seq rfl ?_
  refine J.seq rfl ?_
  refine J.region rfl ?_
  refine JO.pur rfl rfl rfl (Pur.move rfl) ?_
  refine JO.effR rfl rfl rfl (Eff.call rfl (valid_ok (xs := xs) rfl hb)) ?_
  refine JO.pur rfl rfl rfl (Pur.not rfl) ?_
  refine JO.nil ?_
  refine J.splitB 16 rfl (fun h16 => ?_) (fun h16 => ?_)
  · try simp only [decide_eq_true_eq, decide_eq_false_iff_not, Bool.not_eq_true', Bool.not_eq_false', Bool.and_eq_true, Bool.or_eq_true, Bool.and_eq_false_iff, Bool.or_eq_false_iff, Option.isNone_some, Option.isSome_some, Option.isNone_none, Option.isSome_none, Int.not_lt, Int.not_le, beq_iff_eq, beq_eq_false_iff_ne, bne_iff_ne, ne_eq, Bool.not_not, Decidable.not_not] at h16
    have hvb : ¬ validB xs = true := by simpa using h16
    refine J.condT rfl rfl ?_
    refine J.seq rfl ?_
    refine J.region rfl ?_
    refine JO.pur rfl rfl rfl (Pur.assign rfl) ?_
    refine JO.pur rfl rfl rfl (Pur.assign rfl) ?_
    refine JO.nil ?_
    refine J.ret rfl rfl ?_
    exact ⟨_, _, ⟨by unfold cnV; rw [if_pos (by simpa using hvb)]; rfl, rfl⟩, rfl, SubC.out⟩
  · try simp only [decide_eq_true_eq, decide_eq_false_iff_not, Bool.not_eq_true', Bool.not_eq_false', Bool.and_eq_true, Bool.or_eq_true, Bool.and_eq_false_iff, Bool.or_eq_false_iff, Option.isNone_some, Option.isSome_some, Option.isNone_none, Option.isSome_none, Int.not_lt, Int.not_le, beq_iff_eq, beq_eq_false_iff_ne, bne_iff_ne, ne_eq, Bool.not_not, Decidable.not_not] at h16
    have hvb : validB xs = true := by simpa using h16
    have hv := valid_open hvb
    have hb6 := valid_len hvb
    have gR := runV_good (cs := cs) hv
    refine J.condF rfl rfl ?_
    refine J.skip rfl ?_
    refine J.seq rfl ?_
    refine J.region rfl ?_
    refine JO.pur rfl rfl rfl (Pur.move rfl) ?_
    refine JO.pur rfl rfl rfl (Pur.move rfl) ?_
    refine JO.eff rfl rfl rfl (Eff.call rfl (run_ok (xs := xs) (cs := cs) rfl rfl hb6 hv)) ?_
    rintro _ _ ⟨p, aa, ca, ac, cc, af, cf, rfl, rfl⟩
    refine JO.pur rfl rfl rfl (Pur.move rfl) ?_
    refine JO.pur rfl rfl rfl (Pur.extract rfl rfl) ?_
    refine JO.pur rfl rfl rfl (Pur.extract rfl rfl) ?_
    refine JO.pur rfl rfl rfl (Pur.extract rfl rfl) ?_
    refine JO.pur rfl rfl rfl (Pur.assign rfl) ?_
    refine JO.pur rfl rfl rfl (Pur.assign rfl) ?_
    refine JO.pur rfl rfl rfl (Pur.assign rfl) ?_
    refine JO.nil ?_
    refine J.seq rfl ?_
    refine J.seq rfl ?_
    refine J.region rfl ?_
    refine JO.pur rfl rfl rfl (Pur.move rfl) ?_
    refine JO.pur rfl rfl rfl (Pur.neqT rfl rfl) ?_
    refine JO.pur rfl rfl rfl (Pur.move rfl) ?_
    refine JO.splitB 26 rfl (fun h26 => ?_) (fun h26 => ?_)
    · try simp only [decide_eq_true_eq, decide_eq_false_iff_not, Bool.not_eq_true', Bool.not_eq_false', Bool.and_eq_true, Bool.or_eq_true, Bool.and_eq_false_iff, Bool.or_eq_false_iff, Option.isNone_some, Option.isSome_some, Option.isNone_none, Option.isSome_none, Int.not_lt, Int.not_le, beq_iff_eq, beq_eq_false_iff_ne, bne_iff_ne, ne_eq, Bool.not_not, Decidable.not_not] at h26
      have hr : ¬ (runV xs cs).2.1 = sNone := h26
      refine JO.no rfl rfl rfl ?_
      refine JO.no rfl rfl rfl ?_
      refine JO.pur rfl rfl rfl (Pur.pickT rfl rfl) ?_
      refine JO.pur rfl rfl rfl (Pur.move rfl) ?_
      refine JO.no rfl rfl rfl ?_
      refine JO.no rfl rfl rfl ?_
      refine JO.no rfl rfl rfl ?_
      refine JO.no rfl rfl rfl ?_
      refine JO.no rfl rfl rfl ?_
      refine JO.no rfl rfl rfl ?_
      refine JO.no rfl rfl rfl ?_
      refine JO.pur rfl rfl rfl (Pur.pickT rfl rfl) ?_
      refine JO.nil ?_
      refine J.condT rfl rfl ?_
      refine J.seq rfl ?_
      refine J.region rfl ?_
      refine JO.pur rfl rfl rfl (Pur.assign rfl) ?_
      refine JO.pur rfl rfl rfl (Pur.assign rfl) ?_
      refine JO.nil ?_
      refine J.ret rfl rfl ?_
      exact ⟨_, _, ⟨by unfold cnV; rw [if_neg (by simp [hvb]), if_pos (.inl hr)]; rfl, rfl⟩, rfl, SubC.out⟩
    · try simp only [decide_eq_true_eq, decide_eq_false_iff_not, Bool.not_eq_true', Bool.not_eq_false', Bool.and_eq_true, Bool.or_eq_true, Bool.and_eq_false_iff, Bool.or_eq_false_iff, Option.isNone_some, Option.isSome_some, Option.isNone_none, Option.isSome_none, Int.not_lt, Int.not_le, beq_iff_eq, beq_eq_false_iff_ne, bne_iff_ne, ne_eq, Bool.not_not, Decidable.not_not] at h26
      have hr : (runV xs cs).2.1 = sNone := h26
      refine JO.pur rfl rfl rfl (Pur.move rfl) ?_
      refine JO.pur rfl rfl rfl (Pur.lss rfl rfl) ?_
      refine JO.pur rfl rfl rfl (Pur.pickF rfl rfl) ?_
      refine JO.pur rfl rfl rfl (Pur.move rfl) ?_
      refine JO.splitB 30 rfl (fun h30 => ?_) (fun h30 => ?_)
      · try simp only [decide_eq_true_eq, decide_eq_false_iff_not, Bool.not_eq_true', Bool.not_eq_false', Bool.and_eq_true, Bool.or_eq_true, Bool.and_eq_false_iff, Bool.or_eq_false_iff, Option.isNone_some, Option.isSome_some, Option.isNone_none, Option.isSome_none, Int.not_lt, Int.not_le, beq_iff_eq, beq_eq_false_iff_ne, bne_iff_ne, ne_eq, Bool.not_not, Decidable.not_not] at h30
        refine JO.no rfl rfl rfl ?_
        refine JO.no rfl rfl rfl ?_
        refine JO.no rfl rfl rfl ?_
        refine JO.no rfl rfl rfl ?_
        refine JO.no rfl rfl rfl ?_
        refine JO.no rfl rfl rfl ?_
        refine JO.no rfl rfl rfl ?_
        refine JO.pur rfl rfl rfl (Pur.pickT rfl rfl) ?_
        refine JO.nil ?_
        refine J.condT rfl rfl ?_
        refine J.seq rfl ?_
        refine J.region rfl ?_
        refine JO.pur rfl rfl rfl (Pur.assign rfl) ?_
        refine JO.pur rfl rfl rfl (Pur.assign rfl) ?_
        refine JO.nil ?_
        refine J.ret rfl rfl ?_
        exact ⟨_, _, ⟨by unfold cnV; rw [if_neg (by simp [hvb]), if_pos (.inr (.inl h30))]; rfl, rfl⟩, rfl, SubC.out⟩
      · try simp only [decide_eq_true_eq, decide_eq_false_iff_not, Bool.not_eq_true', Bool.not_eq_false', Bool.and_eq_true, Bool.or_eq_true, Bool.and_eq_false_iff, Bool.or_eq_false_iff, Option.isNone_some, Option.isSome_some, Option.isNone_none, Option.isSome_none, Int.not_lt, Int.not_le, beq_iff_eq, beq_eq_false_iff_ne, bne_iff_ne, ne_eq, Bool.not_not, Decidable.not_not] at h30
        refine JO.pur rfl rfl rfl (Pur.move rfl) ?_
        refine JO.pur rfl rfl rfl (Pur.move rfl) ?_
        refine JO.pur rfl rfl rfl (Pur.nilCheck rfl) ?_
        refine JO.pur rfl rfl rfl (Pur.fieldAddr rfl) ?_
        refine JO.pur rfl rfl rfl (Pur.load rfl (CellIn.arrT (n := 16) (k := 0) (by rw [gR.v8]; rfl) rfl)) ?_
        refine JO.pur rfl rfl rfl (Pur.len rfl) ?_
        refine JO.pur rfl rfl rfl (Pur.geq rfl rfl) ?_
        refine JO.pur rfl rfl rfl (Pur.pickF rfl rfl) ?_
        refine JO.nil ?_
        refine J.splitB 38 rfl (fun h38 => ?_) (fun h38 => ?_)
        · try simp only [decide_eq_true_eq, decide_eq_false_iff_not, Bool.not_eq_true', Bool.not_eq_false', Bool.and_eq_true, Bool.or_eq_true, Bool.and_eq_false_iff, Bool.or_eq_false_iff, Option.isNone_some, Option.isSome_some, Option.isNone_none, Option.isSome_none, Int.not_lt, Int.not_le, beq_iff_eq, beq_eq_false_iff_ne, bne_iff_ne, ne_eq, Bool.not_not, Decidable.not_not] at h38
          refine J.condT rfl rfl ?_
          refine J.seq rfl ?_
          refine J.region rfl ?_
          refine JO.pur rfl rfl rfl (Pur.assign rfl) ?_
          refine JO.pur rfl rfl rfl (Pur.assign rfl) ?_
          refine JO.nil ?_
          refine J.ret rfl rfl ?_
          exact ⟨_, _, ⟨by unfold cnV; rw [if_neg (by simp [hvb]), if_pos (.inr (.inr h38))]; rfl, rfl⟩, rfl, SubC.out⟩
        · try simp only [decide_eq_true_eq, decide_eq_false_iff_not, Bool.not_eq_true', Bool.not_eq_false', Bool.and_eq_true, Bool.or_eq_true, Bool.and_eq_false_iff, Bool.or_eq_false_iff, Option.isNone_some, Option.isSome_some, Option.isNone_none, Option.isSome_none, Int.not_lt, Int.not_le, beq_iff_eq, beq_eq_false_iff_ne, bne_iff_ne, ne_eq, Bool.not_not, Decidable.not_not] at h38
          obtain ⟨on, rfl⟩ : ∃ on : Nat, ob = on := ⟨ob.toNat, by omega⟩
          refine J.condF rfl rfl ?_
          refine J.skip rfl ?_
          refine J.seq rfl ?_
          refine J.region rfl ?_
          refine JO.pur rfl rfl rfl (Pur.assign rfl) ?_
          refine JO.nil ?_
          refine J.seq rfl ?_
          refine J.seq rfl ?_
          refine J.region rfl ?_
          refine JO.pur rfl rfl rfl (Pur.move rfl) ?_
          refine JO.pur rfl rfl rfl (Pur.nilCheck rfl) ?_
          refine JO.pur rfl rfl rfl (Pur.fieldAddr rfl) ?_
          refine JO.pur rfl rfl rfl (Pur.loadA rfl rfl (by rw [Enc.all_len, gR.v8]; rfl) CellsIn.arrAll) ?_
          refine JO.pur rfl rfl rfl (Pur.move rfl) ?_
          refine JO.nil ?_
          refine J.block rfl ?_
          refine J.loopF (ι := Nat) (fun q => q ≤ 8) (fun q => [(11, .int .i64 (cn (runV xs cs).1.vars (on : Int) q)), (43, .int .i64 (q : Int))]) [(2, _), (42, _)] (fun q => blk p (arr vrE (runV xs cs).1.vars [.slice aa (runV xs cs).1.alive.length ca, .slice ac (runV xs cs).1.count.length cc, .slice af (fz (runV xs cs).1.freed).length cf] 66) :: sl boolE aa ca (runV xs cs).1.alive :: sl intE ac cc (runV xs cs).1.count :: sl intE af cf (fz (runV xs cs).1.freed) :: L) (fun q => 8 - q) 0 rfl (.cons rfl rfl (.cons rfl rfl .nil)) (.cons rfl rfl (.cons rfl rfl .nil)) (by first | exact fun _ h => h | exact SubC.out | (dsimp only; exact SubC.out)) (Nat.zero_le _) ?_
          rintro i hi ih0
          try dsimp only
          have hcn := cn_le (runV xs cs).1.vars (on : Int) i
          refine J.seq rfl ?_
          refine J.region rfl ?_
          refine JO.pur rfl rfl rfl (Pur.lss rfl rfl) ?_
          refine JO.nil ?_
          refine J.seq rfl ?_
          refine J.splitB 44 rfl (fun h44 => ?_) (fun h44 => ?_)
          · try simp only [decide_eq_true_eq, decide_eq_false_iff_not, Bool.not_eq_true', Bool.not_eq_false', Bool.and_eq_true, Bool.or_eq_true, Bool.and_eq_false_iff, Bool.or_eq_false_iff, Option.isNone_some, Option.isSome_some, Option.isNone_none, Option.isSome_none, Int.not_lt, Int.not_le, beq_iff_eq, beq_eq_false_iff_ne, bne_iff_ne, ne_eq, Bool.not_not, Decidable.not_not] at h44
            have hil : i < (runV xs cs).1.vars.length := by rw [gR.v8]; omega
            refine J.condT rfl rfl ?_
            refine J.skip rfl ?_
            refine J.seq rfl ?_
            refine J.block rfl ?_
            refine J.seq rfl ?_
            refine J.region rfl ?_
            refine JO.pur rfl rfl rfl (Pur.indexE (E := vrE) rfl rfl rfl (by omega) rfl (vr_get hil)) ?_
            refine JO.eff rfl rfl rfl (Eff.alloc (cs := [_, _]) rfl) ?_
            rintro _ _ ⟨b13, rfl, rfl⟩
            refine JO.effN rfl rfl (Eff.storeBA (cs' := [_, _]) rfl rfl (by rfl) (by rfl) (by rfl)) ?_
            rintro _ _ ⟨rfl, rfl⟩
            refine JO.nil ?_
            refine J.seq rfl ?_
            refine J.region rfl ?_
            refine JO.pur rfl rfl rfl (Pur.loadA rfl rfl rfl CellsIn.blk) ?_
            refine JO.pur rfl rfl rfl (Pur.move rfl) ?_
            refine JO.pur rfl rfl rfl (Pur.build (cs := [_, _]) rfl rfl) ?_
            refine JO.pur rfl rfl rfl (Pur.eqlE (E := vrE) (b := ⟨2, on⟩) rfl rfl) ?_
            refine JO.nil ?_
            refine J.splitB 49 rfl (fun h49 => ?_) (fun h49 => ?_)
            · try simp only [decide_eq_true_eq, decide_eq_false_iff_not, Bool.not_eq_true', Bool.not_eq_false', Bool.and_eq_true, Bool.or_eq_true, Bool.and_eq_false_iff, Bool.or_eq_false_iff, Option.isNone_some, Option.isSome_some, Option.isNone_none, Option.isSome_none, Int.not_lt, Int.not_le, beq_iff_eq, beq_eq_false_iff_ne, bne_iff_ne, ne_eq, Bool.not_not, Decidable.not_not] at h49
              refine J.condT rfl rfl ?_
              refine J.region rfl ?_
              refine JO.pur rfl rfl rfl (Pur.move rfl) ?_
              refine JO.pur rfl rfl rfl (Pur.add rfl rfl (wr64 (by omega))) ?_
              refine JO.pur rfl rfl rfl (Pur.assign rfl) ?_
              refine JO.nil ?_
              refine J.inBlock ?_
              refine J.region rfl ?_
              refine JO.pur rfl rfl rfl (Pur.add rfl rfl (wr64 (by omega))) ?_
              refine JO.pur rfl rfl rfl (Pur.move rfl) ?_
              refine JO.nil ?_
              exact J.weaken (.cons rfl (congrArg (Value.int .i64) (by rw [cn, if_pos (show (runV xs cs).1.vars.getD i default = ⟨2, (on : Int).toNat⟩ from h49)])) (.cons rfl (congrArg (Value.int .i64) (by omega)) (.cons rfl rfl (.cons rfl rfl .nil)))) (by first | exact fun _ h => h | exact SubC.out | (dsimp only; exact SubC.out)) (ih0 (i + 1) (by omega) (by omega))
            · try simp only [decide_eq_true_eq, decide_eq_false_iff_not, Bool.not_eq_true', Bool.not_eq_false', Bool.and_eq_true, Bool.or_eq_true, Bool.and_eq_false_iff, Bool.or_eq_false_iff, Option.isNone_some, Option.isSome_some, Option.isNone_none, Option.isSome_none, Int.not_lt, Int.not_le, beq_iff_eq, beq_eq_false_iff_ne, bne_iff_ne, ne_eq, Bool.not_not, Decidable.not_not] at h49
              refine J.condF rfl rfl ?_
              refine J.skip rfl ?_
              refine J.inBlock ?_
              refine J.region rfl ?_
              refine JO.pur rfl rfl rfl (Pur.add rfl rfl (wr64 (by omega))) ?_
              refine JO.pur rfl rfl rfl (Pur.move rfl) ?_
              refine JO.nil ?_
              exact J.weaken (.cons rfl (congrArg (Value.int .i64) (by rw [cn, if_neg (show ¬ (runV xs cs).1.vars.getD i default = ⟨2, (on : Int).toNat⟩ from h49), Int.add_zero])) (.cons rfl (congrArg (Value.int .i64) (by omega)) (.cons rfl rfl (.cons rfl rfl .nil)))) (by first | exact fun _ h => h | exact SubC.out | (dsimp only; exact SubC.out)) (ih0 (i + 1) (by omega) (by omega))
          · try simp only [decide_eq_true_eq, decide_eq_false_iff_not, Bool.not_eq_true', Bool.not_eq_false', Bool.and_eq_true, Bool.or_eq_true, Bool.and_eq_false_iff, Bool.or_eq_false_iff, Option.isNone_some, Option.isSome_some, Option.isNone_none, Option.isSome_none, Int.not_lt, Int.not_le, beq_iff_eq, beq_eq_false_iff_ne, bne_iff_ne, ne_eq, Bool.not_not, Decidable.not_not] at h44
            refine J.condF rfl rfl ?_
            refine J.exit rfl rfl ?_
            refine J.seq rfl ?_
            refine J.region rfl ?_
            refine JO.pur rfl rfl rfl (Pur.move rfl) ?_
            refine JO.pur rfl rfl rfl (Pur.assign rfl) ?_
            refine JO.pur rfl rfl rfl (Pur.assign rfl) ?_
            refine JO.nil ?_
            refine J.ret rfl rfl ?_
            obtain rfl : i = 8 := by omega
            exact ⟨_, _, ⟨by unfold cnV; rw [if_neg (by simp [hvb]), if_neg (by simp [hr]; omega)]; rfl, rfl⟩, rfl, SubC.out⟩

end Go.Proofs.Ythdaopmfgmojnaa
