/-
  A part of the proof of the claim that this folder bears.
-/
import Derived.Test.YtnhippfllgnngaaPAH
import Derived.Test.YtnhippfllgnngaaPAI
/- The text SH2. -/
set_option linter.unusedVariables false
set_option linter.unusedSimpArgs false
set_option maxRecDepth 10000
namespace Go.Proofs.Ytnhippfllgnngaa
open Go Go.KK Dm

theorem wide_ok {L : List Asn} {a : Option Addr} {n cap : Nat} {rs : List Rg} [SlIn rgE L a rs] (hn : n = rs.length) :
    CallS Try.prog 28 [.agg #[.slice a n cap]].toArray L (fun v M => v = .bool (decide (20 < (rs.length : Int))) ∧ M = L) := by
  subst hn
  refine CallS.ent ?_
  refine CallS.enter Try.func28 rfl rfl rfl rfl rfl ?_
  refine J.seq rfl ?_
  refine J.region rfl ?_
  refine JO.eff rfl rfl rfl (Eff.box (cs := [_]) rfl rfl) ?_
  rintro _ _ ⟨b1, rfl, rfl⟩
  refine JO.pur rfl rfl rfl (Pur.assign rfl) ?_
  refine JO.nil ?_
  refine J.seq rfl ?_
  refine J.region rfl ?_
  refine JO.pur rfl rfl rfl (Pur.fieldAddr rfl) ?_
  refine JO.pur rfl rfl rfl (Pur.load rfl (CellIn.blk rfl)) ?_
  refine JO.pur rfl rfl rfl (Pur.len rfl) ?_
  refine JO.pur rfl rfl rfl (Pur.gtr rfl rfl) ?_
  refine JO.pur rfl rfl rfl (Pur.assign rfl) ?_
  refine JO.nil ?_
  refine J.ret rfl rfl ?_
  exact ⟨_, _, ⟨rfl, rfl⟩, rfl, SubC.out⟩

def longV (xss : List (List Int)) : Bool := !decide ((∀ x ∈ xss, x.length ≤ 20) ∧ xss.length ≤ 200)
theorem long_end {xss : List (List Int)} {n : Nat} (hall : ∀ x ∈ xss, x.length ≤ 20) (hn : n = xss.length) : decide ((200 : Int) < (n : Int)) = longV xss := by
  subst hn
  unfold longV
  by_cases g : xss.length ≤ 200
  · rw [decide_eq_true (⟨hall, g⟩ : (∀ x ∈ xss, x.length ≤ 20) ∧ xss.length ≤ 200)]
    exact decide_eq_false (by omega)
  · rw [decide_eq_false (fun g2 : (∀ x ∈ xss, x.length ≤ 20) ∧ xss.length ≤ 200 => g g2.2)]
    exact decide_eq_true (by omega)
def largeS (rs : List Rg) (xss : List (List Int)) : Bool := decide (20 < (rs.length : Int)) || longV xss
theorem long_ok {L : List Asn} {la : Option Addr} {ln lc : Nat} {hs : List Hdr} {xss : List (List Int)} [SlIn hE L la hs] [RowsR intE L hs xss] (hl : ln = hs.length) (hb : hs.length ≤ 9223372036854775807) :
    CallS Try.prog 45 [.slice la ln lc].toArray L (fun v M => v = .bool (longV xss) ∧ M = L) := by
  subst hl
  refine CallS.fact (fun h s => RowsR.len (E := intE) (hs := hs) (xss := xss) s) fun hnn => ?_
  have hhl : hs.length = xss.length := rows_len hnn
  refine CallS.ent ?_
  refine CallS.enter Try.func45 rfl rfl rfl rfl rfl ?_
  refine J.seq rfl ?_
  refine J.region rfl ?_
  refine JO.pur rfl rfl rfl (Pur.assign rfl) ?_
  refine JO.nil ?_
  refine J.seq rfl ?_
  refine J.seq rfl ?_
  refine J.region rfl ?_
  refine JO.pur rfl rfl rfl (Pur.assign rfl) ?_
  refine JO.nil ?_
  refine J.block rfl ?_
  refine J.loopF (ι := Nat) (fun q => q ≤ xss.length ∧ ∀ j x, j < q → xss[j]? = some x → x.length ≤ 20) (fun q => [(3, .int .i64 (q : Int))]) [(0, _)] (fun q => L) (fun q => xss.length - q) 0 rfl (.cons rfl rfl .nil) (.cons rfl rfl .nil) (by first | exact fun _ h => h | exact SubC.out | (dsimp only; exact SubC.out)) ⟨Nat.zero_le _, fun j x hj => absurd hj (Nat.not_lt_zero j)⟩ ?_
  rintro k ⟨hk, hok⟩ ih0
  try dsimp only
  refine J.seq rfl ?_
  refine J.seq rfl ?_
  refine J.region rfl ?_
  refine JO.pur rfl rfl rfl (Pur.move rfl) ?_
  refine JO.pur rfl rfl rfl (Pur.move rfl) ?_
  refine JO.pur rfl rfl rfl (Pur.len rfl) ?_
  refine JO.pur rfl rfl rfl (Pur.lss rfl rfl) ?_
  refine JO.nil ?_
  refine J.splitB 7 rfl (fun h7 => ?_) (fun h7 => ?_)
  · try simp only [decide_eq_true_eq, decide_eq_false_iff_not, Bool.not_eq_true', Bool.not_eq_false', Bool.and_eq_true, Bool.or_eq_true, Bool.and_eq_false_iff, Bool.or_eq_false_iff, Option.isNone_some, Option.isSome_some, Option.isNone_none, Option.isSome_none, Int.not_lt, Int.not_le, beq_iff_eq, beq_eq_false_iff_ne, bne_iff_ne, ne_eq, Bool.not_not, Decidable.not_not] at h7
    have hkl : k < xss.length := by omega
    obtain ⟨x, hX⟩ : ∃ x, xss[k]? = some x := ⟨_, List.getElem?_eq_getElem (by omega)⟩
    obtain ⟨hd, hH⟩ : ∃ hd, hs[k]? = some hd := ⟨_, List.getElem?_eq_getElem (by omega)⟩
    have hdn := hdr_n hnn hH hX
    have hxm := List.mem_of_getElem? hX
    have hxg : xss.getD k [] = x := getD_of' hX
    refine J.condT rfl rfl ?_
    refine J.skip rfl ?_
    refine J.seq rfl ?_
    refine J.block rfl ?_
    refine J.seq rfl ?_
    refine J.region rfl ?_
    refine JO.pur rfl rfl rfl (Pur.move rfl) ?_
    refine JO.pur rfl rfl rfl (Pur.move rfl) ?_
    refine JO.pur rfl rfl rfl (Pur.idx rfl rfl rfl (by first | rfl | (simp; done) | omega) rfl (by omega)) ?_
    refine JO.pur rfl rfl rfl (Pur.load rfl (CellIn.el0 rfl hH rfl)) ?_
    refine JO.setv (u' := .slice hd.a x.length hd.cap) 13 rfl (by rw [← hdn]) ?_
    refine JO.pur rfl rfl rfl (Pur.len rfl) ?_
    refine JO.pur rfl rfl rfl (Pur.gtr rfl rfl) ?_
    refine JO.nil ?_
    refine J.splitB 15 rfl (fun h15 => ?_) (fun h15 => ?_)
    · try simp only [decide_eq_true_eq, decide_eq_false_iff_not, Bool.not_eq_true', Bool.not_eq_false', Bool.and_eq_true, Bool.or_eq_true, Bool.and_eq_false_iff, Bool.or_eq_false_iff, Option.isNone_some, Option.isSome_some, Option.isNone_none, Option.isSome_none, Int.not_lt, Int.not_le, beq_iff_eq, beq_eq_false_iff_ne, bne_iff_ne, ne_eq, Bool.not_not, Decidable.not_not] at h15
      have hbig : ¬ x.length ≤ 20 := by omega
      refine J.condT rfl rfl ?_
      refine J.seq rfl ?_
      refine J.region rfl ?_
      refine JO.pur rfl rfl rfl (Pur.assign rfl) ?_
      refine JO.nil ?_
      refine J.ret rfl rfl ?_
      refine ⟨_, _, ⟨rfl, rfl⟩, congrArg Value.bool (by unfold longV; rw [decide_eq_false (fun g => hbig (g.1 x hxm))]; rfl), SubC.out⟩
    · try simp only [decide_eq_true_eq, decide_eq_false_iff_not, Bool.not_eq_true', Bool.not_eq_false', Bool.and_eq_true, Bool.or_eq_true, Bool.and_eq_false_iff, Bool.or_eq_false_iff, Option.isNone_some, Option.isSome_some, Option.isNone_none, Option.isSome_none, Int.not_lt, Int.not_le, beq_iff_eq, beq_eq_false_iff_ne, bne_iff_ne, ne_eq, Bool.not_not, Decidable.not_not] at h15
      have hok2 : ∀ j y, j < k + 1 → xss[j]? = some y → y.length ≤ 20 := fun j y hj hy => by
        rcases Nat.lt_or_ge j k with h | h
        · exact hok j y h hy
        · obtain rfl : j = k := by omega
          rw [hX] at hy; obtain rfl := Option.some.inj hy; omega
      refine J.condF rfl rfl ?_
      refine J.skip rfl ?_
      refine J.inBlock ?_
      refine J.region rfl ?_
      refine JO.pur rfl rfl rfl (Pur.move rfl) ?_
      refine JO.pur rfl rfl rfl (Pur.add rfl rfl (wr64 (by omega))) ?_
      refine JO.pur rfl rfl rfl (Pur.assign rfl) ?_
      refine JO.nil ?_
      exact J.weaken (.cons rfl (congrArg (Value.int .i64) (by first | rfl | (dsimp only; omega))) (.cons rfl rfl .nil)) (by first | exact fun _ h => h | exact SubC.out | (dsimp only; exact SubC.out)) (ih0 (k + 1) ⟨by omega, hok2⟩ (by omega))
  · try simp only [decide_eq_true_eq, decide_eq_false_iff_not, Bool.not_eq_true', Bool.not_eq_false', Bool.and_eq_true, Bool.or_eq_true, Bool.and_eq_false_iff, Bool.or_eq_false_iff, Option.isNone_some, Option.isSome_some, Option.isNone_none, Option.isSome_none, Int.not_lt, Int.not_le, beq_iff_eq, beq_eq_false_iff_ne, bne_iff_ne, ne_eq, Bool.not_not, Decidable.not_not] at h7
    refine J.condF rfl rfl ?_
    refine J.exit rfl rfl ?_
    refine J.seq rfl ?_
    refine J.region rfl ?_
    refine JO.pur rfl rfl rfl (Pur.move rfl) ?_
    refine JO.pur rfl rfl rfl (Pur.len rfl) ?_
    refine JO.pur rfl rfl rfl (Pur.gtr rfl rfl) ?_
    refine JO.pur rfl rfl rfl (Pur.assign rfl) ?_
    refine JO.nil ?_
    refine J.ret rfl rfl ?_
    have hall : ∀ x ∈ xss, x.length ≤ 20 := fun x hx => by obtain ⟨j, hj, e⟩ := List.getElem_of_mem hx; exact hok j x (by omega) (by rw [List.getElem?_eq_getElem hj, e])
    refine ⟨_, _, ⟨rfl, rfl⟩, congrArg Value.bool (long_end hall hhl), SubC.out⟩

theorem largeS_ok {L : List Asn} {a la : Option Addr} {n cap ln lc : Nat} {rs : List Rg} {hs : List Hdr} {xss : List (List Int)} [SlIn rgE L a rs] [SlIn hE L la hs] [RowsR intE L hs xss] (hn : n = rs.length) (hl : ln = hs.length) (hb : hs.length ≤ 9223372036854775807) :
    CallS Try.prog 20 [.agg #[.slice a n cap, .slice la ln lc]].toArray L (fun v M => v = .bool (largeS rs xss) ∧ M = L) := by
  subst hn
  subst hl
  refine CallS.fact (fun h s => RowsR.len (E := intE) (hs := hs) (xss := xss) s) fun hnn => ?_
  have hhl : hs.length = xss.length := rows_len hnn
  refine CallS.ent ?_
  refine CallS.enter Try.func20 rfl rfl rfl rfl rfl ?_
  refine J.seq rfl ?_
  refine J.region rfl ?_
  refine JO.eff rfl rfl rfl (Eff.box (cs := [_, _]) rfl rfl) ?_
  rintro _ _ ⟨b1, rfl, rfl⟩
  refine JO.pur rfl rfl rfl (Pur.assign rfl) ?_
  refine JO.nil ?_
  refine J.seq rfl ?_
  refine J.region rfl ?_
  refine JO.pur rfl rfl rfl (Pur.fieldAddr rfl) ?_
  refine JO.pur rfl rfl rfl (Pur.loadA rfl rfl rfl (CellsIn.sub1 rfl)) ?_
  refine JO.effR rfl rfl rfl (Eff.call rfl (wide_ok (rs := rs) rfl)) ?_
  refine JO.pur rfl rfl rfl (Pur.move rfl) ?_
  refine JO.splitB 6 rfl (fun h6 => ?_) (fun h6 => ?_)
  · try simp only [decide_eq_true_eq, decide_eq_false_iff_not, Bool.not_eq_true', Bool.not_eq_false', Bool.and_eq_true, Bool.or_eq_true, Bool.and_eq_false_iff, Bool.or_eq_false_iff, Option.isNone_some, Option.isSome_some, Option.isNone_none, Option.isSome_none, Int.not_lt, Int.not_le, beq_iff_eq, beq_eq_false_iff_ne, bne_iff_ne, ne_eq, Bool.not_not, Decidable.not_not] at h6
    refine JO.no rfl rfl rfl ?_
    refine JO.no rfl rfl rfl ?_
    refine JO.no rfl rfl rfl ?_
    refine JO.pur rfl rfl rfl (Pur.pickT rfl rfl) ?_
    refine JO.pur rfl rfl rfl (Pur.assign rfl) ?_
    refine JO.nil ?_
    refine J.ret rfl rfl ?_
    refine ⟨_, _, ⟨rfl, rfl⟩, congrArg Value.bool (by unfold largeS; rw [decide_eq_true h6]; rfl), SubC.out⟩
  · try simp only [decide_eq_true_eq, decide_eq_false_iff_not, Bool.not_eq_true', Bool.not_eq_false', Bool.and_eq_true, Bool.or_eq_true, Bool.and_eq_false_iff, Bool.or_eq_false_iff, Option.isNone_some, Option.isSome_some, Option.isNone_none, Option.isSome_none, Int.not_lt, Int.not_le, beq_iff_eq, beq_eq_false_iff_ne, bne_iff_ne, ne_eq, Bool.not_not, Decidable.not_not] at h6
    refine JO.pur rfl rfl rfl (Pur.fieldAddr rfl) ?_
    refine JO.pur rfl rfl rfl (Pur.load rfl (CellIn.blk rfl)) ?_
    refine JO.effR rfl rfl rfl (Eff.call rfl (long_ok (hs := hs) (xss := xss) rfl hb)) ?_
    refine JO.pur rfl rfl rfl (Pur.pickF rfl rfl) ?_
    refine JO.pur rfl rfl rfl (Pur.assign rfl) ?_
    refine JO.nil ?_
    refine J.ret rfl rfl ?_
    refine ⟨_, _, ⟨rfl, rfl⟩, congrArg Value.bool (by unfold largeS; rw [decide_eq_false (by omega)]; rfl), SubC.out⟩

end Go.Proofs.Ytnhippfllgnngaa
