/-
  A part of the proof of the claim that this folder bears.
  This text: CExp2.
-/
import Derived.Test.YtekgkamjbnfgiaaCExp
set_option linter.unusedVariables false
set_option linter.unusedSimpArgs false
namespace Go.Proofs.Ytekgkamjbnfgiaa
open Go Go.KK Ck

theorem rIsRace_ok {L : List Asn} {b : Option Addr} {n cp : Nat} {xs : List Evt} [SlIn evE L b xs] (hn : n = xs.length) (hb : xs.length ≤ 9223372036854775807) (i k : Int) :
    CallS Try.prog 24 [.slice b n cp, .int .i64 i, .int .i64 k].toArray L (fun v M => v = .tuple #[.bool (raceR xs i k), .int .i64 (askE xs [i, k])] ∧ M = L) := by
  subst hn
  refine CallS.ent ?_
  refine CallS.enter Try.func24 rfl rfl rfl rfl rfl ?_
  refine J.seq rfl ?_
  refine J.region rfl ?_
  refine JO.pur rfl rfl rfl (Pur.assign rfl) ?_
  refine JO.pur rfl rfl rfl (Pur.assign rfl) ?_
  refine JO.nil ?_
  refine J.seq rfl ?_
  refine J.block rfl ?_
  refine J.seq rfl ?_
  refine J.region rfl ?_
  refine JO.pur rfl rfl rfl (Pur.move rfl) ?_
  refine JO.effR rfl rfl rfl (Eff.call rfl (rright_ok rfl hb)) ?_
  refine JO.pur rfl rfl rfl (Pur.not rfl) ?_
  refine JO.pur rfl rfl rfl (Pur.assign rfl) ?_
  refine JO.nil ?_
  refine J.splitB 9 rfl (fun h9 => ?_) (fun h9 => ?_)
  · try simp only [decide_eq_true_eq, decide_eq_false_iff_not, Bool.not_eq_true', Bool.not_eq_false', Bool.and_eq_true, Bool.or_eq_true, Bool.and_eq_false_iff, Bool.or_eq_false_iff, Option.isNone_some, Option.isSome_some, Option.isNone_none, Option.isSome_none, Int.not_lt, Int.not_le, beq_iff_eq, beq_eq_false_iff_ne, bne_iff_ne, ne_eq, Bool.not_not, Decidable.not_not] at h9
    have hask : askE xs [i, k] = 130 := ask_no (by simpa using h9)
    refine J.condT rfl rfl ?_
    refine J.seq rfl ?_
    refine J.region rfl ?_
    refine JO.pur rfl rfl rfl (Pur.assign rfl) ?_
    refine JO.pur rfl rfl rfl (Pur.assign rfl) ?_
    refine JO.nil ?_
    refine J.ret rfl rfl ?_
    first
      | exact ⟨_, _, ⟨rfl, rfl⟩, (by rw [show raceR xs i k = false by unfold raceR; rw [if_neg (by rw [hask]; decide)]]; rw [hask]; rfl), SubC.out⟩
      | exact ⟨_, _, ⟨rfl, rfl⟩, (by unfold raceR raceV; rw [if_pos h15, h15, h35]; first | rfl | (simp only [h45]; rfl)), SubC.out⟩
  · try simp only [decide_eq_true_eq, decide_eq_false_iff_not, Bool.not_eq_true', Bool.not_eq_false', Bool.and_eq_true, Bool.or_eq_true, Bool.and_eq_false_iff, Bool.or_eq_false_iff, Option.isNone_some, Option.isSome_some, Option.isNone_none, Option.isSome_none, Int.not_lt, Int.not_le, beq_iff_eq, beq_eq_false_iff_ne, bne_iff_ne, ne_eq, Bool.not_not, Decidable.not_not] at h9
    have hR : rightB xs = true := by simpa using h9
    have hf := right_fine hR
    have hlen := right_len hR
    refine J.condF rfl rfl ?_
    refine J.seq rfl ?_
    refine J.region rfl ?_
    refine JO.pur rfl rfl rfl (Pur.move rfl) ?_
    refine JO.pur rfl rfl rfl (Pur.move rfl) ?_
    refine JO.effR rfl rfl rfl (Eff.call rfl (is_ok i)) ?_
    refine JO.pur rfl rfl rfl (Pur.not rfl) ?_
    refine JO.pur rfl rfl rfl (Pur.move rfl) ?_
    refine JO.splitB 18 rfl (fun h18 => ?_) (fun h18 => ?_)
    · try simp only [decide_eq_true_eq, decide_eq_false_iff_not, Bool.not_eq_true', Bool.not_eq_false', Bool.and_eq_true, Bool.or_eq_true, Bool.and_eq_false_iff, Bool.or_eq_false_iff, Option.isNone_some, Option.isSome_some, Option.isNone_none, Option.isSome_none, Int.not_lt, Int.not_le, beq_iff_eq, beq_eq_false_iff_ne, bne_iff_ne, ne_eq, Bool.not_not, Decidable.not_not] at h18
      have hask : askE xs [i, k] = 2 := ask_bad hR (by rw [any2]; simp_all)
      refine JO.no rfl rfl rfl ?_
      refine JO.no rfl rfl rfl ?_
      refine JO.no rfl rfl rfl ?_
      refine JO.no rfl rfl rfl ?_
      refine JO.pur rfl rfl rfl (Pur.pickT rfl rfl) ?_
      refine JO.pur rfl rfl rfl (Pur.assign rfl) ?_
      refine JO.nil ?_
      refine J.condT rfl rfl ?_
      refine J.seq rfl ?_
      refine J.region rfl ?_
      refine JO.pur rfl rfl rfl (Pur.assign rfl) ?_
      refine JO.pur rfl rfl rfl (Pur.assign rfl) ?_
      refine JO.nil ?_
      refine J.ret rfl rfl ?_
      first
        | exact ⟨_, _, ⟨rfl, rfl⟩, (by rw [show raceR xs i k = false by unfold raceR; rw [if_neg (by rw [hask]; decide)]]; rw [hask]; rfl), SubC.out⟩
        | exact ⟨_, _, ⟨rfl, rfl⟩, (by unfold raceR raceV; rw [if_pos h15, h15, h35]; first | rfl | (simp only [h45]; rfl)), SubC.out⟩
    · try simp only [decide_eq_true_eq, decide_eq_false_iff_not, Bool.not_eq_true', Bool.not_eq_false', Bool.and_eq_true, Bool.or_eq_true, Bool.and_eq_false_iff, Bool.or_eq_false_iff, Option.isNone_some, Option.isSome_some, Option.isNone_none, Option.isSome_none, Int.not_lt, Int.not_le, beq_iff_eq, beq_eq_false_iff_ne, bne_iff_ne, ne_eq, Bool.not_not, Decidable.not_not] at h18
      refine JO.pur rfl rfl rfl (Pur.move rfl) ?_
      refine JO.pur rfl rfl rfl (Pur.move rfl) ?_
      refine JO.effR rfl rfl rfl (Eff.call rfl (is_ok k)) ?_
      refine JO.pur rfl rfl rfl (Pur.not rfl) ?_
      refine JO.pur rfl rfl rfl (Pur.pickF rfl rfl) ?_
      refine JO.pur rfl rfl rfl (Pur.assign rfl) ?_
      refine JO.nil ?_
      refine J.splitB 13 rfl (fun h13 => ?_) (fun h13 => ?_)
      · try simp only [decide_eq_true_eq, decide_eq_false_iff_not, Bool.not_eq_true', Bool.not_eq_false', Bool.and_eq_true, Bool.or_eq_true, Bool.and_eq_false_iff, Bool.or_eq_false_iff, Option.isNone_some, Option.isSome_some, Option.isNone_none, Option.isSome_none, Int.not_lt, Int.not_le, beq_iff_eq, beq_eq_false_iff_ne, bne_iff_ne, ne_eq, Bool.not_not, Decidable.not_not] at h13
        have hask : askE xs [i, k] = 2 := ask_bad hR (by rw [any2]; simp_all)
        refine J.condT rfl rfl ?_
        refine J.seq rfl ?_
        refine J.region rfl ?_
        refine JO.pur rfl rfl rfl (Pur.assign rfl) ?_
        refine JO.pur rfl rfl rfl (Pur.assign rfl) ?_
        refine JO.nil ?_
        refine J.ret rfl rfl ?_
        first
          | exact ⟨_, _, ⟨rfl, rfl⟩, (by rw [show raceR xs i k = false by unfold raceR; rw [if_neg (by rw [hask]; decide)]]; rw [hask]; rfl), SubC.out⟩
          | exact ⟨_, _, ⟨rfl, rfl⟩, (by unfold raceR raceV; rw [if_pos h15, h15, h35]; first | rfl | (simp only [h45]; rfl)), SubC.out⟩
      · try simp only [decide_eq_true_eq, decide_eq_false_iff_not, Bool.not_eq_true', Bool.not_eq_false', Bool.and_eq_true, Bool.or_eq_true, Bool.and_eq_false_iff, Bool.or_eq_false_iff, Option.isNone_some, Option.isSome_some, Option.isNone_none, Option.isSome_none, Int.not_lt, Int.not_le, beq_iff_eq, beq_eq_false_iff_ne, bne_iff_ne, ne_eq, Bool.not_not, Decidable.not_not] at h13
        have hbi : badI xs.length i = false := by simpa using h18
        have hbk : badI xs.length k = false := by simpa using h13
        have h15 : askE xs [i, k] = 0 := ask_ok hR (by rw [any2, hbi, hbk]; rfl)
        obtain ⟨-, hin⟩ := ask0 h15
        have hI := hin i (by simp)
        have hK := hin k (by simp)
        have hti : i = ((i.toNat : Nat) : Int) := (Int.toNat_of_nonneg hI.1).symm
        have htk : k = ((k.toNat : Nat) : Int) := (Int.toNat_of_nonneg hK.1).symm
        refine J.condF rfl rfl ?_
        refine J.skip rfl ?_
        refine J.inBlock ?_
        refine J.seq rfl ?_
        refine J.region rfl ?_
        refine JO.pur rfl rfl rfl (Pur.move rfl) ?_
        refine JO.eff rfl rfl rfl (Eff.call rfl (table_ok rfl hlen)) ?_
        rintro _ _ ⟨a24, c24, hs24, tab, hU, rfl, rfl⟩
        refine JO.fact (fun h s => KK.RowsIn.n (hs := hs24) s) fun hnn => ?_
        have hhl : hs24.length = xs.length := by rw [rows_len hnn]; exact hU.1
        have kh : hs24[k.toNat]? = some (hs24.getD k.toNat default) := getD_get (by omega)
        have kt : tab[k.toNat]? = some (tab.getD k.toNat []) := getD_get (by rw [hU.1]; omega)
        have kn := hdr_n hnn kh kt
        have kl := (hU.2 k.toNat (by omega)).1
        have kv := fun j (hj : j < xs.length) => befV_of hf hj (by omega) ((hU.2 k.toNat (by omega)).2 j hj)
        have rh : hs24[i.toNat]? = some (hs24.getD i.toNat default) := getD_get (by omega)
        have rt : tab[i.toNat]? = some (tab.getD i.toNat []) := getD_get (by rw [hU.1]; omega)
        have rn := hdr_n hnn rh rt
        have rl := (hU.2 i.toNat (by omega)).1
        have rv := fun j (hj : j < xs.length) => befV_of hf hj (by omega) ((hU.2 i.toNat (by omega)).2 j hj)
        refine JO.pur rfl rfl rfl (Pur.assign rfl) ?_
        refine JO.nil ?_
        refine J.seq rfl ?_
        refine J.quiet rfl Try.mixed (by kernel_rfl) ?_
        refine JQ.pur rfl rfl rfl (Pur.move rfl) ?_
        refine JQ.pur rfl rfl rfl (Pur.move rfl) ?_
        refine JQ.pur rfl rfl rfl (Pur.idx rfl rfl rfl (by first | rfl | (simp; done) | omega) hti (by omega)) ?_
        refine JQ.pur rfl rfl rfl (Pur.loadA rfl rfl rfl (CellsIn.el rfl (ev_get (by omega)))) ?_
        refine JQ.pur rfl rfl rfl (Pur.move rfl) ?_
        refine JQ.pur rfl rfl rfl (Pur.move rfl) ?_
        refine JQ.pur rfl rfl rfl (Pur.idx rfl rfl rfl (by first | rfl | (simp; done) | omega) htk (by omega)) ?_
        refine JQ.pur rfl rfl rfl (Pur.loadA rfl rfl rfl (CellsIn.el rfl (ev_get (by omega)))) ?_
        refine JQ.callE rfl rfl rfl (clash_ok (Ck.ev xs i.toNat) (Ck.ev xs k.toNat)) ?_
        rw [clash_conf (hf _ (by omega)) (hf _ (by omega))]
        refine JQ.pur rfl rfl rfl (Pur.move rfl) ?_
        refine JQ.splitB 35 rfl (fun h35 => ?_) (fun h35 => ?_)
        · try simp only [decide_eq_true_eq, decide_eq_false_iff_not, Bool.not_eq_true', Bool.not_eq_false', Bool.and_eq_true, Bool.or_eq_true, Bool.and_eq_false_iff, Bool.or_eq_false_iff, Option.isNone_some, Option.isSome_some, Option.isNone_none, Option.isSome_none, Int.not_lt, Int.not_le, beq_iff_eq, beq_eq_false_iff_ne, bne_iff_ne, ne_eq, Bool.not_not, Decidable.not_not] at h35
          refine JQ.pur rfl rfl rfl (Pur.move rfl) ?_
          refine JQ.pur rfl rfl rfl (Pur.move rfl) ?_
          refine JQ.pur rfl rfl rfl (Pur.idx rfl rfl rfl (by first | rfl | (simp; done) | omega) htk (by omega)) ?_
          refine JQ.pur rfl rfl rfl (Pur.load rfl (CellIn.el0 rfl kh rfl)) ?_
          refine JQ.pur rfl rfl rfl (Pur.move rfl) ?_
          refine JQ.pur rfl rfl rfl (Pur.idx (hs := RowsIn.row (E := boolE) inferInstance kh kt) rfl rfl rfl (by first | rfl | (simp; done) | omega) hti (by omega)) ?_
          refine JQ.pur rfl rfl rfl (Pur.load rfl (CellIn.el0 (hh := RowsIn.row (E := boolE) inferInstance kh kt) rfl (getD_get (d := false) (by omega)) rfl)) ?_
          rw [kv _ (by omega)]
          refine JQ.pur rfl rfl rfl (Pur.not rfl) ?_
          refine JQ.pur rfl rfl rfl (Pur.pickT rfl rfl) ?_
          refine JQ.pur rfl rfl rfl (Pur.move rfl) ?_
          refine JQ.splitB 45 rfl (fun h45 => ?_) (fun h45 => ?_)
          · try simp only [decide_eq_true_eq, decide_eq_false_iff_not, Bool.not_eq_true', Bool.not_eq_false', Bool.and_eq_true, Bool.or_eq_true, Bool.and_eq_false_iff, Bool.or_eq_false_iff, Option.isNone_some, Option.isSome_some, Option.isNone_none, Option.isSome_none, Int.not_lt, Int.not_le, beq_iff_eq, beq_eq_false_iff_ne, bne_iff_ne, ne_eq, Bool.not_not, Decidable.not_not] at h45
            refine JQ.pur rfl rfl rfl (Pur.move rfl) ?_
            refine JQ.pur rfl rfl rfl (Pur.move rfl) ?_
            refine JQ.pur rfl rfl rfl (Pur.idx rfl rfl rfl (by first | rfl | (simp; done) | omega) hti (by omega)) ?_
            refine JQ.pur rfl rfl rfl (Pur.load rfl (CellIn.el0 rfl rh rfl)) ?_
            refine JQ.pur rfl rfl rfl (Pur.move rfl) ?_
            refine JQ.pur rfl rfl rfl (Pur.idx (hs := RowsIn.row (E := boolE) inferInstance rh rt) rfl rfl rfl (by first | rfl | (simp; done) | omega) htk (by omega)) ?_
            refine JQ.pur rfl rfl rfl (Pur.load rfl (CellIn.el0 (hh := RowsIn.row (E := boolE) inferInstance rh rt) rfl (getD_get (d := false) (by omega)) rfl)) ?_
            rw [rv _ (by omega)]
            refine JQ.pur rfl rfl rfl (Pur.not rfl) ?_
            refine JQ.pur rfl rfl rfl (Pur.pickT rfl rfl) ?_
            refine JQ.pur rfl rfl rfl (Pur.assign rfl) ?_
            refine JQ.pur rfl rfl rfl (Pur.assign rfl) ?_
            refine JQ.nil ?_
            refine J.ret rfl rfl ?_
            first
              | exact ⟨_, _, ⟨rfl, rfl⟩, (by rw [show raceR xs i k = false by unfold raceR; rw [if_neg (by rw [hask]; decide)]]; rw [hask]; rfl), SubC.out⟩
              | exact ⟨_, _, ⟨rfl, rfl⟩, (by unfold raceR raceV; rw [if_pos h15, h15, h35]; first | rfl | (simp only [h45]; rfl)), SubC.out⟩
          · try simp only [decide_eq_true_eq, decide_eq_false_iff_not, Bool.not_eq_true', Bool.not_eq_false', Bool.and_eq_true, Bool.or_eq_true, Bool.and_eq_false_iff, Bool.or_eq_false_iff, Option.isNone_some, Option.isSome_some, Option.isNone_none, Option.isSome_none, Int.not_lt, Int.not_le, beq_iff_eq, beq_eq_false_iff_ne, bne_iff_ne, ne_eq, Bool.not_not, Decidable.not_not] at h45
            refine JQ.no rfl rfl rfl ?_
            refine JQ.no rfl rfl rfl ?_
            refine JQ.no rfl rfl rfl ?_
            refine JQ.no rfl rfl rfl ?_
            refine JQ.no rfl rfl rfl ?_
            refine JQ.no rfl rfl rfl ?_
            refine JQ.no rfl rfl rfl ?_
            refine JQ.no rfl rfl rfl ?_
            refine JQ.pur rfl rfl rfl (Pur.pickF rfl rfl) ?_
            refine JQ.pur rfl rfl rfl (Pur.assign rfl) ?_
            refine JQ.pur rfl rfl rfl (Pur.assign rfl) ?_
            refine JQ.nil ?_
            refine J.ret rfl rfl ?_
            first
              | exact ⟨_, _, ⟨rfl, rfl⟩, (by rw [show raceR xs i k = false by unfold raceR; rw [if_neg (by rw [hask]; decide)]]; rw [hask]; rfl), SubC.out⟩
              | exact ⟨_, _, ⟨rfl, rfl⟩, (by unfold raceR raceV; rw [if_pos h15, h15, h35]; first | rfl | (simp only [h45]; rfl)), SubC.out⟩
        · try simp only [decide_eq_true_eq, decide_eq_false_iff_not, Bool.not_eq_true', Bool.not_eq_false', Bool.and_eq_true, Bool.or_eq_true, Bool.and_eq_false_iff, Bool.or_eq_false_iff, Option.isNone_some, Option.isSome_some, Option.isNone_none, Option.isSome_none, Int.not_lt, Int.not_le, beq_iff_eq, beq_eq_false_iff_ne, bne_iff_ne, ne_eq, Bool.not_not, Decidable.not_not] at h35
          refine JQ.no rfl rfl rfl ?_
          refine JQ.no rfl rfl rfl ?_
          refine JQ.no rfl rfl rfl ?_
          refine JQ.no rfl rfl rfl ?_
          refine JQ.no rfl rfl rfl ?_
          refine JQ.no rfl rfl rfl ?_
          refine JQ.no rfl rfl rfl ?_
          refine JQ.no rfl rfl rfl ?_
          refine JQ.pur rfl rfl rfl (Pur.pickF rfl rfl) ?_
          refine JQ.pur rfl rfl rfl (Pur.move rfl) ?_
          refine JQ.no rfl rfl rfl ?_
          refine JQ.no rfl rfl rfl ?_
          refine JQ.no rfl rfl rfl ?_
          refine JQ.no rfl rfl rfl ?_
          refine JQ.no rfl rfl rfl ?_
          refine JQ.no rfl rfl rfl ?_
          refine JQ.no rfl rfl rfl ?_
          refine JQ.no rfl rfl rfl ?_
          refine JQ.pur rfl rfl rfl (Pur.pickF rfl rfl) ?_
          refine JQ.pur rfl rfl rfl (Pur.assign rfl) ?_
          refine JQ.pur rfl rfl rfl (Pur.assign rfl) ?_
          refine JQ.nil ?_
          refine J.ret rfl rfl ?_
          first
            | exact ⟨_, _, ⟨rfl, rfl⟩, (by rw [show raceR xs i k = false by unfold raceR; rw [if_neg (by rw [hask]; decide)]]; rw [hask]; rfl), SubC.out⟩
            | exact ⟨_, _, ⟨rfl, rfl⟩, (by unfold raceR raceV; rw [if_pos h15, h15, h35]; first | rfl | (simp only [h45]; rfl)), SubC.out⟩

theorem cntV_b {l : List Evt} {S : Nat → Prop} {n m u : Nat} {v : List Int} (h : Kno l n S v) (hu : u < many l) : -1 ≤ (cntV l v m).getD u 0 ∧ (cntV l v m).getD u 0 ≤ l.length := by
  have h1 := h.lo u hu
  have h2 : cnt l u m ≤ l.length := by unfold cnt; exact Nat.le_trans List.countP_le_length (by rw [List.length_take]; omega)
  simp only [List.getD_eq_getElem?_getD, cntV_get hu, Option.getD_some] at *
  omega
def clkR (xs : List Evt) (p : Int) : List Int := if askE xs [p] = 0 then clkAt xs p.toNat else []
theorem Clock_ok {L : List Asn} {b : Option Addr} {n cp : Nat} {xs : List Evt} [SlIn evE L b xs] (hn : n = xs.length) (hb : xs.length ≤ 9223372036854775807) (p : Int) :
    CallS Try.prog 20 [.slice b n cp, .int .i64 p].toArray L (fun v M => ∃ a cap cs, cs = clkR xs p ∧ v = .tuple #[.slice a cs.length cap, .int .i64 (askE xs [p])] ∧ M = sl intE a cap cs :: L) := by
  subst hn
  refine CallS.ent ?_
  refine CallS.enter Try.func20 rfl rfl rfl rfl rfl ?_
  refine J.seq rfl ?_
  refine J.region rfl ?_
  refine JO.pur rfl rfl rfl (Pur.assign rfl) ?_
  refine JO.pur rfl rfl rfl (Pur.assign rfl) ?_
  refine JO.nil ?_
  refine J.seq rfl ?_
  refine J.seq rfl ?_
  refine J.region rfl ?_
  refine JO.pur rfl rfl rfl (Pur.move rfl) ?_
  refine JO.pur rfl rfl rfl (Pur.move rfl) ?_
  refine JO.eff rfl rfl rfl (Eff.buildSlice intE [p] rfl rfl rfl rfl rfl rfl rfl) ?_
  rintro _ _ ⟨b9, rfl, -, rfl⟩
  refine JO.effR rfl rfl rfl (Eff.call rfl (asked_ok (es := [p]) rfl hb rfl (by simp))) ?_
  refine JO.pur rfl rfl rfl (Pur.assign rfl) ?_
  refine JO.nil ?_
  refine J.seq rfl ?_
  refine J.region rfl ?_
  refine JO.pur rfl rfl rfl (Pur.move rfl) ?_
  refine JO.pur rfl rfl rfl (Pur.neqI rfl rfl) ?_
  refine JO.nil ?_
  refine J.splitB 12 rfl (fun h12 => ?_) (fun h12 => ?_)
  · try simp only [decide_eq_true_eq, decide_eq_false_iff_not, Bool.not_eq_true', Bool.not_eq_false', Bool.and_eq_true, Bool.or_eq_true, Bool.and_eq_false_iff, Bool.or_eq_false_iff, Option.isNone_some, Option.isSome_some, Option.isNone_none, Option.isSome_none, Int.not_lt, Int.not_le, beq_iff_eq, beq_eq_false_iff_ne, bne_iff_ne, ne_eq, Bool.not_not, Decidable.not_not] at h12
    refine J.condT rfl rfl ?_
    refine J.seq rfl ?_
    refine J.region rfl ?_
    refine JO.pur rfl rfl rfl (Pur.move rfl) ?_
    refine JO.pur rfl rfl rfl (Pur.assign rfl) ?_
    refine JO.pur rfl rfl rfl (Pur.assign rfl) ?_
    refine JO.nil ?_
    refine J.ret rfl rfl ?_
    exact ⟨_, _, ⟨none, 0, clkR xs p, rfl, rfl, rfl⟩, (by rw [show clkR xs p = [] by unfold clkR; rw [if_neg h12]]; rfl), fun h s => by rw [show clkR xs p = [] by unfold clkR; rw [if_neg h12]]; exact SubC.out h (sl_nil_new (E := intE) s)⟩
  · try simp only [decide_eq_true_eq, decide_eq_false_iff_not, Bool.not_eq_true', Bool.not_eq_false', Bool.and_eq_true, Bool.or_eq_true, Bool.and_eq_false_iff, Bool.or_eq_false_iff, Option.isNone_some, Option.isSome_some, Option.isNone_none, Option.isSome_none, Int.not_lt, Int.not_le, beq_iff_eq, beq_eq_false_iff_ne, bne_iff_ne, ne_eq, Bool.not_not, Decidable.not_not] at h12
    obtain ⟨hR, hin⟩ := ask0 h12
    have hf := right_fine hR
    have hlen := right_len hR
    have hI := hin p (by simp)
    have hti : p = ((p.toNat : Nat) : Int) := (Int.toNat_of_nonneg hI.1).symm
    refine J.condF rfl rfl ?_
    refine J.skip rfl ?_
    refine J.seq rfl ?_
    refine J.region rfl ?_
    refine JO.pur rfl rfl rfl (Pur.move rfl) ?_
    refine JO.eff rfl rfl rfl (Eff.call rfl (clocks_ok rfl hlen hf)) ?_
    rintro _ _ ⟨a15, c15, hs15, rfl, rfl⟩
    refine JO.fact (fun h s => KK.RowsIn.n (hs := hs15) s) fun hnn => ?_
    have hhl : hs15.length = xs.length := by rw [rows_len hnn]; exact clks_len hf
    have hH : hs15[p.toNat]? = some (hs15.getD p.toNat default) := getD_get (by omega)
    have hC := clk_get hf (show p.toNat < xs.length by omega)
    have hN := hdr_n hnn hH hC
    refine JO.pur rfl rfl rfl (Pur.move rfl) ?_
    refine JO.pur rfl rfl rfl (Pur.idx rfl rfl rfl (by first | rfl | (simp; done) | omega) hti (by omega)) ?_
    refine JO.pur rfl rfl rfl (Pur.load rfl (CellIn.el0 rfl hH rfl)) ?_
    refine JO.pur rfl rfl rfl (Pur.assign rfl) ?_
    refine JO.pur rfl rfl rfl (Pur.assign rfl) ?_
    refine JO.nil ?_
    refine J.ret rfl rfl ?_
    have hc : clkR xs p = clkAt xs p.toNat := by unfold clkR; rw [if_pos h12]
    exact ⟨_, _, ⟨(hs15.getD p.toNat default).a, (hs15.getD p.toNat default).cap, clkR xs p, rfl, rfl, rfl⟩, (by rw [hc, h12, ← hN]; rfl), fun h s => by rw [hc]; exact SubC.out h (open_row (E := intE) hH hC s)⟩

theorem rClock_ok {L : List Asn} {b : Option Addr} {n cp : Nat} {xs : List Evt} [SlIn evE L b xs] (hn : n = xs.length) (hb : xs.length ≤ 9223372036854775807) (p : Int) :
    CallS Try.prog 21 [.slice b n cp, .int .i64 p].toArray L (fun v M => ∃ a cap cs, cs = clkR xs p ∧ v = .tuple #[.slice a cs.length cap, .int .i64 (askE xs [p])] ∧ M = sl intE a cap cs :: L) := by
  subst hn
  refine CallS.ent ?_
  refine CallS.enter Try.func21 rfl rfl rfl rfl rfl ?_
  refine J.seq rfl ?_
  refine J.region rfl ?_
  refine JO.pur rfl rfl rfl (Pur.assign rfl) ?_
  refine JO.pur rfl rfl rfl (Pur.assign rfl) ?_
  refine JO.nil ?_
  refine J.seq rfl ?_
  refine J.block rfl ?_
  refine J.seq rfl ?_
  refine J.region rfl ?_
  refine JO.pur rfl rfl rfl (Pur.move rfl) ?_
  refine JO.effR rfl rfl rfl (Eff.call rfl (rright_ok rfl hb)) ?_
  refine JO.pur rfl rfl rfl (Pur.not rfl) ?_
  refine JO.pur rfl rfl rfl (Pur.assign rfl) ?_
  refine JO.nil ?_
  refine J.splitB 9 rfl (fun h9 => ?_) (fun h9 => ?_)
  · try simp only [decide_eq_true_eq, decide_eq_false_iff_not, Bool.not_eq_true', Bool.not_eq_false', Bool.and_eq_true, Bool.or_eq_true, Bool.and_eq_false_iff, Bool.or_eq_false_iff, Option.isNone_some, Option.isSome_some, Option.isNone_none, Option.isSome_none, Int.not_lt, Int.not_le, beq_iff_eq, beq_eq_false_iff_ne, bne_iff_ne, ne_eq, Bool.not_not, Decidable.not_not] at h9
    have hask : askE xs [p] = 130 := ask_no (by simpa using h9)
    refine J.condT rfl rfl ?_
    refine J.seq rfl ?_
    refine J.region rfl ?_
    refine JO.pur rfl rfl rfl (Pur.assign rfl) ?_
    refine JO.pur rfl rfl rfl (Pur.assign rfl) ?_
    refine JO.nil ?_
    refine J.ret rfl rfl ?_
    exact ⟨_, _, ⟨none, 0, clkR xs p, rfl, rfl, rfl⟩, (by rw [show clkR xs p = [] by unfold clkR; rw [if_neg (by rw [hask]; decide)], hask]; rfl), fun h s => by rw [show clkR xs p = [] by unfold clkR; rw [if_neg (by rw [hask]; decide)]]; exact SubC.out h (sl_nil_new (E := intE) s)⟩
  · try simp only [decide_eq_true_eq, decide_eq_false_iff_not, Bool.not_eq_true', Bool.not_eq_false', Bool.and_eq_true, Bool.or_eq_true, Bool.and_eq_false_iff, Bool.or_eq_false_iff, Option.isNone_some, Option.isSome_some, Option.isNone_none, Option.isSome_none, Int.not_lt, Int.not_le, beq_iff_eq, beq_eq_false_iff_ne, bne_iff_ne, ne_eq, Bool.not_not, Decidable.not_not] at h9
    have hR : rightB xs = true := by simpa using h9
    have hf := right_fine hR
    have hlen := right_len hR
    refine J.condF rfl rfl ?_
    refine J.seq rfl ?_
    refine J.region rfl ?_
    refine JO.pur rfl rfl rfl (Pur.move rfl) ?_
    refine JO.pur rfl rfl rfl (Pur.move rfl) ?_
    refine JO.effR rfl rfl rfl (Eff.call rfl (is_ok p)) ?_
    refine JO.pur rfl rfl rfl (Pur.not rfl) ?_
    refine JO.pur rfl rfl rfl (Pur.assign rfl) ?_
    refine JO.nil ?_
    refine J.splitB 13 rfl (fun h13 => ?_) (fun h13 => ?_)
    · try simp only [decide_eq_true_eq, decide_eq_false_iff_not, Bool.not_eq_true', Bool.not_eq_false', Bool.and_eq_true, Bool.or_eq_true, Bool.and_eq_false_iff, Bool.or_eq_false_iff, Option.isNone_some, Option.isSome_some, Option.isNone_none, Option.isSome_none, Int.not_lt, Int.not_le, beq_iff_eq, beq_eq_false_iff_ne, bne_iff_ne, ne_eq, Bool.not_not, Decidable.not_not] at h13
      have hask : askE xs [p] = 2 := ask_bad hR (by rw [any1]; simpa using h13)
      refine J.condT rfl rfl ?_
      refine J.seq rfl ?_
      refine J.region rfl ?_
      refine JO.pur rfl rfl rfl (Pur.assign rfl) ?_
      refine JO.pur rfl rfl rfl (Pur.assign rfl) ?_
      refine JO.nil ?_
      refine J.ret rfl rfl ?_
      exact ⟨_, _, ⟨none, 0, clkR xs p, rfl, rfl, rfl⟩, (by rw [show clkR xs p = [] by unfold clkR; rw [if_neg (by rw [hask]; decide)], hask]; rfl), fun h s => by rw [show clkR xs p = [] by unfold clkR; rw [if_neg (by rw [hask]; decide)]]; exact SubC.out h (sl_nil_new (E := intE) s)⟩
    · try simp only [decide_eq_true_eq, decide_eq_false_iff_not, Bool.not_eq_true', Bool.not_eq_false', Bool.and_eq_true, Bool.or_eq_true, Bool.and_eq_false_iff, Bool.or_eq_false_iff, Option.isNone_some, Option.isSome_some, Option.isNone_none, Option.isSome_none, Int.not_lt, Int.not_le, beq_iff_eq, beq_eq_false_iff_ne, bne_iff_ne, ne_eq, Bool.not_not, Decidable.not_not] at h13
      have h12 : askE xs [p] = 0 := ask_ok hR (by rw [any1]; simpa using h13)
      obtain ⟨-, hin⟩ := ask0 h12
      have hI := hin p (by simp)
      have hti : p = ((p.toNat : Nat) : Int) := (Int.toNat_of_nonneg hI.1).symm
      have hKn := clks_kno hf (show p.toNat < xs.length by omega)
      have hmany := many_le xs
      refine J.condF rfl rfl ?_
      refine J.skip rfl ?_
      refine J.inBlock ?_
      refine J.seq rfl ?_
      refine J.region rfl ?_
      refine JO.pur rfl rfl rfl (Pur.move rfl) ?_
      refine JO.eff rfl rfl rfl (Eff.call rfl (table_ok rfl hlen)) ?_
      rintro _ _ ⟨a24, c24, hs24, tab, hU, rfl, rfl⟩
      refine JO.fact (fun h s => KK.RowsIn.n (hs := hs24) s) fun hnn => ?_
      have hhl : hs24.length = xs.length := by rw [rows_len hnn]; exact hU.1
      have kh : hs24[p.toNat]? = some (hs24.getD p.toNat default) := getD_get (by omega)
      have kt : tab[p.toNat]? = some (tab.getD p.toNat []) := getD_get (by rw [hU.1]; omega)
      have kn := hdr_n hnn kh kt
      have kl := (hU.2 p.toNat (by omega)).1
      have kv := fun j (hj : j < xs.length) => befV_of hf hj (by omega) ((hU.2 p.toNat (by omega)).2 j hj)
      refine JO.pur rfl rfl rfl (Pur.move rfl) ?_
      refine JO.pur rfl rfl rfl (Pur.idx rfl rfl rfl (by first | rfl | (simp; done) | omega) hti (by omega)) ?_
      refine JO.pur rfl rfl rfl (Pur.load rfl (CellIn.el0 rfl kh rfl)) ?_
      refine JO.pur rfl rfl rfl (Pur.assign rfl) ?_
      refine JO.nil ?_
      refine J.seq rfl ?_
      refine J.region rfl ?_
      refine JO.pur rfl rfl rfl (Pur.move rfl) ?_
      refine JO.effR rfl rfl rfl (Eff.call rfl (tasks_ok rfl (by omega))) ?_
      refine JO.eff rfl rfl rfl (Eff.make intE 0 rfl rfl rfl rfl rfl (by decide) (by omega) (by omega)) ?_
      rintro _ _ ⟨b25, rfl, rfl⟩
      refine JO.pur rfl rfl rfl (Pur.assign rfl) ?_
      refine JO.nil ?_
      refine J.seq rfl ?_
      refine J.seq rfl ?_
      refine J.region rfl ?_
      refine JO.pur rfl rfl rfl (Pur.assign rfl) ?_
      refine JO.nil ?_
      refine J.block rfl ?_
      obtain ⟨I, hIe⟩ : ∃ I, I = p.toNat := ⟨_, rfl⟩
      refine J.loopF (ι := Nat) (fun i => i ≤ I + 1) (fun i => [(8, .int .i64 (i : Int))]) [(0, _), (1, _), (6, _), (7, _)] (fun i => sl intE (some ⟨b25, 0, none⟩) (many xs) (cntV xs (clkAt xs p.toNat) i) :: sl rowBE a24 c24 hs24 :: rows boolE hs24 tab :: L) (fun i => I + 1 - i) 0 rfl (.cons rfl rfl (.cons rfl rfl (.cons rfl rfl (.cons rfl rfl .nil)))) (.cons rfl rfl .nil) (fun h s => by have e := cntV_zero hKn; rw [show clkAt xs p.toNat = (clks xs).getD p.toNat [] from rfl, e]; exact SubC.out h s) (Nat.zero_le _) ?_
      rintro m hm ih0
      try dsimp only
      refine J.seq rfl ?_
      refine J.seq rfl ?_
      refine J.region rfl ?_
      refine JO.pur rfl rfl rfl (Pur.move rfl) ?_
      refine JO.pur rfl rfl rfl (Pur.move rfl) ?_
      refine JO.pur rfl rfl rfl (Pur.leq rfl rfl) ?_
      refine JO.nil ?_
      refine J.splitB 28 rfl (fun h28 => ?_) (fun h28 => ?_)
      · try simp only [decide_eq_true_eq, decide_eq_false_iff_not, Bool.not_eq_true', Bool.not_eq_false', Bool.and_eq_true, Bool.or_eq_true, Bool.and_eq_false_iff, Bool.or_eq_false_iff, Option.isNone_some, Option.isSome_some, Option.isNone_none, Option.isSome_none, Int.not_lt, Int.not_le, beq_iff_eq, beq_eq_false_iff_ne, bne_iff_ne, ne_eq, Bool.not_not, Decidable.not_not] at h28
        have hml : m < xs.length := by omega
        have htm := tk_lt hf hml
        have ht0 := (hf m hml).t0
        have htk : (Ck.ev xs m).task = ((tk xs m : Nat) : Int) := (Int.toNat_of_nonneg ht0).symm
        have hcl := cntV_len xs (clkAt xs p.toNat) m
        have hbv := befV_iff hf hml (show p.toNat < xs.length by omega)
        refine J.condT rfl rfl ?_
        refine J.skip rfl ?_
        refine J.seq rfl ?_
        refine J.block rfl ?_
        refine J.seq rfl ?_
        refine J.region rfl ?_
        refine JO.pur rfl rfl rfl (Pur.move rfl) ?_
        refine JO.pur rfl rfl rfl (Pur.move rfl) ?_
        refine JO.pur rfl rfl rfl (Pur.idx (hs := RowsIn.row (E := boolE) inferInstance kh kt) rfl rfl rfl (by first | rfl | (simp; done) | omega) rfl (by omega)) ?_
        refine JO.pur rfl rfl rfl (Pur.load rfl (CellIn.el0 (hh := RowsIn.row (E := boolE) inferInstance kh kt) rfl (getD_get (d := false) (by omega)) rfl)) ?_
        rw [kv _ hml]
        refine JO.pur rfl rfl rfl (Pur.move rfl) ?_
        refine JO.splitB 35 rfl (fun h35 => ?_) (fun h35 => ?_)
        · try simp only [decide_eq_true_eq, decide_eq_false_iff_not, Bool.not_eq_true', Bool.not_eq_false', Bool.and_eq_true, Bool.or_eq_true, Bool.and_eq_false_iff, Bool.or_eq_false_iff, Option.isNone_some, Option.isSome_some, Option.isNone_none, Option.isSome_none, Int.not_lt, Int.not_le, beq_iff_eq, beq_eq_false_iff_ne, bne_iff_ne, ne_eq, Bool.not_not, Decidable.not_not] at h35
          refine JO.no rfl rfl rfl ?_
          refine JO.no rfl rfl rfl ?_
          refine JO.no rfl rfl rfl ?_
          refine JO.pur rfl rfl rfl (Pur.pickT rfl rfl) ?_
          refine JO.nil ?_
          refine J.condT rfl rfl ?_
          refine J.region rfl ?_
          refine JO.pur rfl rfl rfl (Pur.move rfl) ?_
          refine JO.pur rfl rfl rfl (Pur.move rfl) ?_
          refine JO.pur rfl rfl rfl (Pur.move rfl) ?_
          refine JO.pur rfl rfl rfl (Pur.idx rfl rfl rfl (by first | rfl | (simp; done) | omega) rfl (by omega)) ?_
          refine JO.pur rfl rfl rfl (Pur.fieldAddr rfl) ?_
          refine JO.pur rfl rfl rfl (Pur.load rfl (CellIn.el rfl (ev_get (by omega)) rfl)) ?_
          refine JO.pur rfl rfl rfl (Pur.idx rfl rfl rfl (by first | rfl | (simp; done) | omega) htk (by omega)) ?_
          refine JO.pur rfl rfl rfl (Pur.load rfl (CellIn.el0 rfl (getD_get (d := 0) (by omega)) rfl)) ?_
          have hw64 := cntV_b (m := m) hKn htm
          rw [show (clks xs).getD p.toNat [] = clkAt xs p.toNat from rfl] at hw64
          refine JO.pur rfl rfl rfl (Pur.add rfl rfl (wr64 (by omega))) ?_
          refine JO.pur rfl rfl rfl (Pur.idx rfl rfl rfl (by first | rfl | (simp; done) | omega) htk (by omega)) ?_
          refine JO.effN rfl rfl (Eff.storeS0 (E := intE) (z' := ((cntV xs (clkAt xs p.toNat) m).getD (tk xs m) 0 + 1)) rfl rfl rfl rfl (getD_get (d := 0) (by omega)) .head) ?_
          rintro _ _ ⟨rfl, rfl⟩
          refine JO.nil ?_
          refine J.inBlock ?_
          refine J.region rfl ?_
          refine JO.pur rfl rfl rfl (Pur.move rfl) ?_
          refine JO.pur rfl rfl rfl (Pur.add rfl rfl (wr64 (by omega))) ?_
          refine JO.pur rfl rfl rfl (Pur.assign rfl) ?_
          refine JO.nil ?_
          have hnext : (cntV xs (clkAt xs p.toNat) m).set (tk xs m) ((cntV xs (clkAt xs p.toNat) m).getD (tk xs m) 0 + 1) = cntV xs (clkAt xs p.toNat) (m + 1) := cntV_yes hKn (by omega) hml htm (.inr (hbv.1 h35))
          exact J.weaken (.cons rfl (congrArg (Value.int .i64) (by omega)) (.cons rfl rfl (.cons rfl rfl (.cons rfl rfl (.cons rfl rfl .nil))))) (fun h s => by rw [← hnext]; exact SubC.out h s) (ih0 (m + 1) (by omega) (by omega))
        · try simp only [decide_eq_true_eq, decide_eq_false_iff_not, Bool.not_eq_true', Bool.not_eq_false', Bool.and_eq_true, Bool.or_eq_true, Bool.and_eq_false_iff, Bool.or_eq_false_iff, Option.isNone_some, Option.isSome_some, Option.isNone_none, Option.isSome_none, Int.not_lt, Int.not_le, beq_iff_eq, beq_eq_false_iff_ne, bne_iff_ne, ne_eq, Bool.not_not, Decidable.not_not] at h35
          refine JO.pur rfl rfl rfl (Pur.move rfl) ?_
          refine JO.pur rfl rfl rfl (Pur.move rfl) ?_
          refine JO.pur rfl rfl rfl (Pur.eqlI rfl rfl) ?_
          refine JO.pur rfl rfl rfl (Pur.pickF rfl rfl) ?_
          refine JO.nil ?_
          refine J.splitB 39 rfl (fun h39 => ?_) (fun h39 => ?_)
          · try simp only [decide_eq_true_eq, decide_eq_false_iff_not, Bool.not_eq_true', Bool.not_eq_false', Bool.and_eq_true, Bool.or_eq_true, Bool.and_eq_false_iff, Bool.or_eq_false_iff, Option.isNone_some, Option.isSome_some, Option.isNone_none, Option.isSome_none, Int.not_lt, Int.not_le, beq_iff_eq, beq_eq_false_iff_ne, bne_iff_ne, ne_eq, Bool.not_not, Decidable.not_not] at h39
            refine J.condT rfl rfl ?_
            refine J.region rfl ?_
            refine JO.pur rfl rfl rfl (Pur.move rfl) ?_
            refine JO.pur rfl rfl rfl (Pur.move rfl) ?_
            refine JO.pur rfl rfl rfl (Pur.move rfl) ?_
            refine JO.pur rfl rfl rfl (Pur.idx rfl rfl rfl (by first | rfl | (simp; done) | omega) rfl (by omega)) ?_
            refine JO.pur rfl rfl rfl (Pur.fieldAddr rfl) ?_
            refine JO.pur rfl rfl rfl (Pur.load rfl (CellIn.el rfl (ev_get (by omega)) rfl)) ?_
            refine JO.pur rfl rfl rfl (Pur.idx rfl rfl rfl (by first | rfl | (simp; done) | omega) htk (by omega)) ?_
            refine JO.pur rfl rfl rfl (Pur.load rfl (CellIn.el0 rfl (getD_get (d := 0) (by omega)) rfl)) ?_
            have hw64 := cntV_b (m := m) hKn htm
            rw [show (clks xs).getD p.toNat [] = clkAt xs p.toNat from rfl] at hw64
            refine JO.pur rfl rfl rfl (Pur.add rfl rfl (wr64 (by omega))) ?_
            refine JO.pur rfl rfl rfl (Pur.idx rfl rfl rfl (by first | rfl | (simp; done) | omega) htk (by omega)) ?_
            refine JO.effN rfl rfl (Eff.storeS0 (E := intE) (z' := ((cntV xs (clkAt xs p.toNat) m).getD (tk xs m) 0 + 1)) rfl rfl rfl rfl (getD_get (d := 0) (by omega)) .head) ?_
            rintro _ _ ⟨rfl, rfl⟩
            refine JO.nil ?_
            refine J.inBlock ?_
            refine J.region rfl ?_
            refine JO.pur rfl rfl rfl (Pur.move rfl) ?_
            refine JO.pur rfl rfl rfl (Pur.add rfl rfl (wr64 (by omega))) ?_
            refine JO.pur rfl rfl rfl (Pur.assign rfl) ?_
            refine JO.nil ?_
            have hnext : (cntV xs (clkAt xs p.toNat) m).set (tk xs m) ((cntV xs (clkAt xs p.toNat) m).getD (tk xs m) 0 + 1) = cntV xs (clkAt xs p.toNat) (m + 1) := cntV_yes hKn (by omega) hml htm (.inl (by omega))
            exact J.weaken (.cons rfl (congrArg (Value.int .i64) (by omega)) (.cons rfl rfl (.cons rfl rfl (.cons rfl rfl (.cons rfl rfl .nil))))) (fun h s => by rw [← hnext]; exact SubC.out h s) (ih0 (m + 1) (by omega) (by omega))
          · try simp only [decide_eq_true_eq, decide_eq_false_iff_not, Bool.not_eq_true', Bool.not_eq_false', Bool.and_eq_true, Bool.or_eq_true, Bool.and_eq_false_iff, Bool.or_eq_false_iff, Option.isNone_some, Option.isSome_some, Option.isNone_none, Option.isSome_none, Int.not_lt, Int.not_le, beq_iff_eq, beq_eq_false_iff_ne, bne_iff_ne, ne_eq, Bool.not_not, Decidable.not_not] at h39
            refine J.condF rfl rfl ?_
            refine J.skip rfl ?_
            refine J.inBlock ?_
            refine J.region rfl ?_
            refine JO.pur rfl rfl rfl (Pur.move rfl) ?_
            refine JO.pur rfl rfl rfl (Pur.add rfl rfl (wr64 (by omega))) ?_
            refine JO.pur rfl rfl rfl (Pur.assign rfl) ?_
            refine JO.nil ?_
            have hnext : cntV xs (clkAt xs p.toNat) m = cntV xs (clkAt xs p.toNat) (m + 1) := cntV_no hKn (by omega) hml htm (fun hq => by rcases hq with hq | hq; omega; rw [hbv.2 hq] at h35; cases h35)
            exact J.weaken (.cons rfl (congrArg (Value.int .i64) (by omega)) (.cons rfl rfl (.cons rfl rfl (.cons rfl rfl (.cons rfl rfl .nil))))) (fun h s => by rw [← hnext]; exact SubC.out h s) (ih0 (m + 1) (by omega) (by omega))
      · try simp only [decide_eq_true_eq, decide_eq_false_iff_not, Bool.not_eq_true', Bool.not_eq_false', Bool.and_eq_true, Bool.or_eq_true, Bool.and_eq_false_iff, Bool.or_eq_false_iff, Option.isNone_some, Option.isSome_some, Option.isNone_none, Option.isSome_none, Int.not_lt, Int.not_le, beq_iff_eq, beq_eq_false_iff_ne, bne_iff_ne, ne_eq, Bool.not_not, Decidable.not_not] at h28
        refine J.condF rfl rfl ?_
        refine J.exit rfl rfl ?_
        refine J.seq rfl ?_
        refine J.region rfl ?_
        refine JO.pur rfl rfl rfl (Pur.move rfl) ?_
        refine JO.pur rfl rfl rfl (Pur.assign rfl) ?_
        refine JO.pur rfl rfl rfl (Pur.assign rfl) ?_
        refine JO.nil ?_
        refine J.ret rfl rfl ?_
        have hmI : m = p.toNat + 1 := by omega
        subst hmI
        have hc : clkR xs p = cntV xs (clkAt xs p.toNat) (p.toNat + 1) := by unfold clkR; rw [if_pos h12]; exact (cntV_all hKn).symm
        exact ⟨_, _, ⟨some ⟨b25, 0, none⟩, many xs, clkR xs p, rfl, rfl, rfl⟩, (by rw [hc, h12, cntV_len]; rfl), fun h s => by rw [hc]; exact SubC.out h s⟩

end Go.Proofs.Ytekgkamjbnfgiaa
