/-
  A part of the proof of the claim that this folder bears.
-/
import Derived.Test.YtnhippfllgnngaaPAE
import Derived.Test.YtnhippfllgnngaaPAF
/- The text SH2. -/
set_option linter.unusedVariables false
set_option linter.unusedSimpArgs false
set_option maxRecDepth 10000
namespace Go.Proofs.Ytnhippfllgnngaa
open Go Go.KK Dm

theorem find_cl {L : List Asn} {a la ya : Option Addr} {n cap ln lc yn yc bx : Nat} {rs : List Rg} {y : List Int} {t : Int} [SlIn rgE L a rs] [hy : SlIn intE L ya y] [hbx : BlkIn L bx (.cells #[.slice a n cap, .slice la ln lc] 27)] (hn : n = rs.length) (hyn : yn = y.length) :
    CallS Try.prog 140 [.slice ya yn yc, .int .i64 t, .pointer (some ⟨bx, 0, none⟩)].toArray L (fun v M => v = .int .i64 (cmpZ (plV rs y).1 t) ∧ M = L) := by
  refine CallS.ent ?_
  refine CallS.enter Try.func140 rfl rfl rfl rfl rfl ?_
  refine J.seq rfl ?_
  refine J.region rfl ?_
  refine JO.pur rfl rfl rfl (Pur.assign rfl) ?_
  refine JO.nil ?_
  refine J.seq rfl ?_
  refine J.region rfl ?_
  refine JO.pur rfl rfl rfl (Pur.fieldAddr rfl) ?_
  refine JO.pur rfl rfl rfl (Pur.loadA rfl rfl rfl (CellsIn.sub1 rfl)) ?_
  refine JO.pur rfl rfl rfl (Pur.move rfl) ?_
  refine JO.effR rfl rfl rfl (Eff.call rfl (d_Place (rs := rs) (x := y) hn hyn)) ?_
  refine JO.pur rfl rfl rfl (Pur.move rfl) ?_
  refine JO.pur rfl rfl rfl (Pur.extract rfl rfl) ?_
  refine JO.pur rfl rfl rfl (Pur.extract rfl rfl) ?_
  refine JO.pur rfl rfl rfl (Pur.assign rfl) ?_
  refine JO.pur rfl rfl rfl (Pur.assign rfl) ?_
  refine JO.nil ?_
  refine J.seq rfl ?_
  refine J.region rfl ?_
  refine JO.pur rfl rfl rfl (Pur.move rfl) ?_
  refine JO.pur rfl rfl rfl (Pur.move rfl) ?_
  refine JO.effR rfl rfl rfl (Eff.call rfl (cmp_ok)) ?_
  refine JO.pur rfl rfl rfl (Pur.assign rfl) ?_
  refine JO.nil ?_
  refine J.ret rfl rfl ?_
  refine ⟨_, _, ⟨rfl, rfl⟩, rfl, SubC.out⟩

theorem bsearch {L : List Asn} {a la la2 : Option Addr} {n cap ln ln2 lc lc2 bx : Nat} {rs : List Rg} {hs : List Hdr} {xss : List (List Int)} {x : List Int} [SlIn rgE L a rs] [SlIn hE L la hs] [RowsR intE L hs xss] [hbx : BlkIn L bx (.cells #[.slice a n cap, .slice la2 ln2 lc2] 27)] (hn : n = rs.length) (hl : ln = hs.length) (hs0 : okS rs xss) (hx : (plD rs x).isSome = true) :
    CallS Try.prog 139 [.slice la ln lc, .int .i64 (atS rs x), .func (.func 140) #[] #[.pointer (some ⟨bx, 0, none⟩)]].toArray L (fun v M => v = .tuple #[.int .i64 ((cntS rs xss (atS rs x) : Nat) : Int), .bool (decide (x ∈ xss))] ∧ M = L) := by
  subst hn
  subst hl
  refine CallS.fact (fun h s => RowsR.len (E := intE) (hs := hs) (xss := xss) s) fun hnn => ?_
  have hhl : hs.length = xss.length := rows_len hnn
  refine CallS.ent ?_
  refine CallS.enter Try.func139 rfl rfl rfl rfl rfl ?_
  refine J.seq rfl ?_
  refine J.region rfl ?_
  refine JO.pur rfl rfl rfl (Pur.assign rfl) ?_
  refine JO.pur rfl rfl rfl (Pur.assign rfl) ?_
  refine JO.nil ?_
  refine J.seq rfl ?_
  refine J.region rfl ?_
  refine JO.pur rfl rfl rfl (Pur.move rfl) ?_
  refine JO.pur rfl rfl rfl (Pur.len rfl) ?_
  refine JO.pur rfl rfl rfl (Pur.assign rfl) ?_
  refine JO.nil ?_
  refine J.seq rfl ?_
  refine J.region rfl ?_
  refine JO.pur rfl rfl rfl (Pur.move rfl) ?_
  refine JO.pur rfl rfl rfl (Pur.assign rfl) ?_
  refine JO.pur rfl rfl rfl (Pur.assign rfl) ?_
  refine JO.nil ?_
  refine J.seq rfl ?_
  refine J.block rfl ?_
  refine J.loopF (ι := Nat × Nat) (fun q => q.1 ≤ q.2 ∧ q.2 ≤ xss.length ∧ (∀ k, k < q.1 → atS rs (xss.getD k []) < (atS rs x)) ∧ ∀ k, q.2 ≤ k → k < xss.length → (atS rs x) ≤ atS rs (xss.getD k [])) (fun q => [(9, .int .i64 (q.1 : Int)), (10, .int .i64 (q.2 : Int))]) [(0, _), (1, _), (2, _), (8, _)] (fun q => L) (fun q => q.2 - q.1) (0, xss.length) rfl (.cons rfl rfl (.cons rfl rfl (.cons rfl rfl (.cons rfl rfl .nil)))) (.cons rfl rfl (.cons rfl (congrArg (fun z : Nat => Value.int .i64 (z : Int)) hhl) .nil)) (by first | exact fun _ h => h | exact SubC.out | (dsimp only; exact SubC.out)) ⟨Nat.zero_le _, Nat.le_refl _, fun k hk => absurd hk (Nat.not_lt_zero k), fun k h1 h2 => by dsimp only at h1; omega⟩ ?_
  rintro ⟨i, j⟩ ⟨hij, hj, hlo, hhi⟩ ih0
  try dsimp only
  dsimp only at hij hj hlo hhi
  refine J.seq rfl ?_
  refine J.seq rfl ?_
  refine J.region rfl ?_
  refine JO.pur rfl rfl rfl (Pur.move rfl) ?_
  refine JO.pur rfl rfl rfl (Pur.move rfl) ?_
  refine JO.pur rfl rfl rfl (Pur.lss rfl rfl) ?_
  refine JO.nil ?_
  refine J.splitB 17 rfl (fun h17 => ?_) (fun h17 => ?_)
  · try simp only [decide_eq_true_eq, decide_eq_false_iff_not, Bool.not_eq_true', Bool.not_eq_false', Bool.and_eq_true, Bool.or_eq_true, Bool.and_eq_false_iff, Bool.or_eq_false_iff, Option.isNone_some, Option.isSome_some, Option.isNone_none, Option.isSome_none, Int.not_lt, Int.not_le, beq_iff_eq, beq_eq_false_iff_ne, bne_iff_ne, ne_eq, Bool.not_not, Decidable.not_not] at h17
    have hijl : i < j := by omega
    obtain ⟨m, hm⟩ : ∃ m, m = (i + j) / 2 := ⟨_, rfl⟩
    have hm1 : i ≤ m ∧ m < j := by omega
    have hl4 := hs0.2.1
    obtain ⟨y, hX⟩ : ∃ y, xss[m]? = some y := ⟨_, List.getElem?_eq_getElem (by omega)⟩
    obtain ⟨hd, hH⟩ : ∃ hd, hs[m]? = some hd := ⟨_, List.getElem?_eq_getElem (by omega)⟩
    have hdn := hdr_n hnn hH hX
    have hym := List.mem_of_getElem? hX
    have hyg : xss.getD m [] = y := getD_of' hX
    have hpv := (plV_ok hs0.1 y).2 (okS_some hs0 hym)
    refine J.condT rfl rfl ?_
    refine J.skip rfl ?_
    refine J.block rfl ?_
    refine J.seq rfl ?_
    refine J.region rfl ?_
    refine JO.pur rfl rfl rfl (Pur.move rfl) ?_
    refine JO.pur rfl rfl rfl (Pur.move rfl) ?_
    refine JO.pur rfl rfl rfl (Pur.add rfl rfl (wr64 (by omega))) ?_
    refine JO.pur rfl rfl rfl (Pur.convI rfl (wrU64 (by omega))) ?_
    refine JO.pur rfl rfl rfl (Pur.shrU1 rfl rfl (show (i : Int) + (j : Int) = ((i + j : Nat) : Int) by omega)) ?_
    refine JO.pur rfl rfl rfl (Pur.convI rfl (wr64 (by omega))) ?_
    refine JO.setv (u' := .int .i64 (m : Int)) 23 rfl (by rw [hm]) ?_
    refine JO.pur rfl rfl rfl (Pur.assign rfl) ?_
    refine JO.nil ?_
    refine J.seq rfl ?_
    refine J.region rfl ?_
    refine JO.pur rfl rfl rfl (Pur.move rfl) ?_
    refine JO.pur rfl rfl rfl (Pur.move rfl) ?_
    refine JO.pur rfl rfl rfl (Pur.move rfl) ?_
    refine JO.pur rfl rfl rfl (Pur.idx rfl rfl rfl (by first | rfl | (simp; done) | omega) rfl (by omega)) ?_
    refine JO.pur rfl rfl rfl (Pur.load rfl (CellIn.el0 rfl hH rfl)) ?_
    refine JO.setv (u' := .slice hd.a hd.n hd.cap) 28 rfl rfl ?_
    refine JO.pur rfl rfl rfl (Pur.move rfl) ?_
    refine JO.effR rfl rfl rfl (Eff.callV rfl rfl (find_cl (rs := rs) (y := y) (hy := RowsR.row (E := intE) inferInstance hH hX) rfl hdn)) ?_
    rw [hpv]
    refine JO.pur rfl rfl rfl (Pur.lss rfl rfl) ?_
    refine JO.nil ?_
    refine J.splitB 31 rfl (fun h31 => ?_) (fun h31 => ?_)
    · try simp only [decide_eq_true_eq, decide_eq_false_iff_not, Bool.not_eq_true', Bool.not_eq_false', Bool.and_eq_true, Bool.or_eq_true, Bool.and_eq_false_iff, Bool.or_eq_false_iff, Option.isNone_some, Option.isSome_some, Option.isNone_none, Option.isSome_none, Int.not_lt, Int.not_le, beq_iff_eq, beq_eq_false_iff_ne, bne_iff_ne, ne_eq, Bool.not_not, Decidable.not_not] at h31
      have hlt : atS rs y < (atS rs x) := by unfold cmpZ at h31; split at h31; assumption; split at h31 <;> omega
      have hlo2 : ∀ k, k < m + 1 → atS rs (xss.getD k []) < (atS rs x) := fun k hk => by
        by_cases e : k = m
        · rw [e, hyg]; exact hlt
        · have := okS_asc hs0 m k (by omega) (by omega); rw [hyg] at this; omega
      refine J.condT rfl rfl ?_
      refine J.region rfl ?_
      refine JO.pur rfl rfl rfl (Pur.move rfl) ?_
      refine JO.pur rfl rfl rfl (Pur.add rfl rfl (wr64 (by omega))) ?_
      refine JO.pur rfl rfl rfl (Pur.assign rfl) ?_
      refine JO.nil ?_
      refine J.inBlock ?_
      exact J.weaken (.cons rfl (congrArg (Value.int .i64) (by first | rfl | (dsimp only; omega))) (.cons rfl (congrArg (Value.int .i64) (by first | rfl | (dsimp only; omega))) (.cons rfl rfl (.cons rfl rfl (.cons rfl rfl (.cons rfl rfl .nil)))))) (by first | exact fun _ h => h | exact SubC.out | (dsimp only; exact SubC.out)) (ih0 (m + 1, j) ⟨by dsimp only; omega, hj, hlo2, hhi⟩ (by dsimp only; omega))
    · try simp only [decide_eq_true_eq, decide_eq_false_iff_not, Bool.not_eq_true', Bool.not_eq_false', Bool.and_eq_true, Bool.or_eq_true, Bool.and_eq_false_iff, Bool.or_eq_false_iff, Option.isNone_some, Option.isSome_some, Option.isNone_none, Option.isSome_none, Int.not_lt, Int.not_le, beq_iff_eq, beq_eq_false_iff_ne, bne_iff_ne, ne_eq, Bool.not_not, Decidable.not_not] at h31
      have hge : (atS rs x) ≤ atS rs y := by unfold cmpZ at h31; split at h31; omega; omega
      have hhi2 : ∀ k, m ≤ k → k < xss.length → (atS rs x) ≤ atS rs (xss.getD k []) := fun k hk hl => by
        by_cases e : k = m
        · rw [e, hyg]; exact hge
        · have := okS_asc hs0 k m (by omega) hl; rw [hyg] at this; omega
      refine J.condF rfl rfl ?_
      refine J.region rfl ?_
      refine JO.pur rfl rfl rfl (Pur.move rfl) ?_
      refine JO.pur rfl rfl rfl (Pur.assign rfl) ?_
      refine JO.nil ?_
      refine J.inBlock ?_
      exact J.weaken (.cons rfl (congrArg (Value.int .i64) (by first | rfl | (dsimp only; omega))) (.cons rfl (congrArg (Value.int .i64) (by first | rfl | (dsimp only; omega))) (.cons rfl rfl (.cons rfl rfl (.cons rfl rfl (.cons rfl rfl .nil)))))) (by first | exact fun _ h => h | exact SubC.out | (dsimp only; exact SubC.out)) (ih0 (i, m) ⟨by dsimp only; omega, by dsimp only; omega, hlo, hhi2⟩ (by dsimp only; omega))
  · try simp only [decide_eq_true_eq, decide_eq_false_iff_not, Bool.not_eq_true', Bool.not_eq_false', Bool.and_eq_true, Bool.or_eq_true, Bool.and_eq_false_iff, Bool.or_eq_false_iff, Option.isNone_some, Option.isSome_some, Option.isNone_none, Option.isSome_none, Int.not_lt, Int.not_le, beq_iff_eq, beq_eq_false_iff_ne, bne_iff_ne, ne_eq, Bool.not_not, Decidable.not_not] at h17
    have hije : i = j := by omega
    subst hije
    have hcn := cnt_at hj hlo hhi
    have hmi := mem_at hs0 hx hj hlo hhi
    refine J.condF rfl rfl ?_
    refine J.exit rfl rfl ?_
    refine J.seq rfl ?_
    refine J.region rfl ?_
    refine JO.pur rfl rfl rfl (Pur.move rfl) ?_
    refine JO.pur rfl rfl rfl (Pur.move rfl) ?_
    refine JO.pur rfl rfl rfl (Pur.move rfl) ?_
    refine JO.pur rfl rfl rfl (Pur.lss rfl rfl) ?_
    refine JO.pur rfl rfl rfl (Pur.move rfl) ?_
    refine JO.splitB 39 rfl (fun h39 => ?_) (fun h39 => ?_)
    · try simp only [decide_eq_true_eq, decide_eq_false_iff_not, Bool.not_eq_true', Bool.not_eq_false', Bool.and_eq_true, Bool.or_eq_true, Bool.and_eq_false_iff, Bool.or_eq_false_iff, Option.isNone_some, Option.isSome_some, Option.isNone_none, Option.isSome_none, Int.not_lt, Int.not_le, beq_iff_eq, beq_eq_false_iff_ne, bne_iff_ne, ne_eq, Bool.not_not, Decidable.not_not] at h39
      have hil : i < xss.length := by omega
      obtain ⟨y, hX⟩ : ∃ y, xss[i]? = some y := ⟨_, List.getElem?_eq_getElem (by omega)⟩
      obtain ⟨hd, hH⟩ : ∃ hd, hs[i]? = some hd := ⟨_, List.getElem?_eq_getElem (by omega)⟩
      have hdn := hdr_n hnn hH hX
      have hym := List.mem_of_getElem? hX
      have hyg : xss.getD i [] = y := getD_of' hX
      have hpv := (plV_ok hs0.1 y).2 (okS_some hs0 hym)
      refine JO.pur rfl rfl rfl (Pur.move rfl) ?_
      refine JO.pur rfl rfl rfl (Pur.move rfl) ?_
      refine JO.pur rfl rfl rfl (Pur.move rfl) ?_
      refine JO.pur rfl rfl rfl (Pur.idx rfl rfl rfl (by first | rfl | (simp; done) | omega) rfl (by omega)) ?_
      refine JO.pur rfl rfl rfl (Pur.load rfl (CellIn.el0 rfl hH rfl)) ?_
      refine JO.setv (u' := .slice hd.a hd.n hd.cap) 44 rfl rfl ?_
      refine JO.pur rfl rfl rfl (Pur.move rfl) ?_
      refine JO.effR rfl rfl rfl (Eff.callV rfl rfl (find_cl (rs := rs) (y := y) (hy := RowsR.row (E := intE) inferInstance hH hX) rfl hdn)) ?_
      rw [hpv]
      refine JO.pur rfl rfl rfl (Pur.eqlI rfl rfl) ?_
      refine JO.pur rfl rfl rfl (Pur.pickT rfl rfl) ?_
      refine JO.pur rfl rfl rfl (Pur.assign rfl) ?_
      refine JO.pur rfl rfl rfl (Pur.assign rfl) ?_
      refine JO.nil ?_
      refine J.ret rfl rfl ?_
      refine ⟨_, _, ⟨rfl, rfl⟩, ?_, SubC.out⟩
      have h9 : decide (cmpZ (atS rs y, (0 : Int)).1 (atS rs x) = 0) = decide (x ∈ xss) := decide_eq_decide.2 (by
        rw [hmi, hyg]; unfold cmpZ; dsimp only
        constructor
        · intro g; refine ⟨hil, ?_⟩; split at g; cases g; split at g; cases g; omega
        · rintro ⟨_, g⟩; rw [g]; simp)
      rw [h9, hcn]; rfl
    · try simp only [decide_eq_true_eq, decide_eq_false_iff_not, Bool.not_eq_true', Bool.not_eq_false', Bool.and_eq_true, Bool.or_eq_true, Bool.and_eq_false_iff, Bool.or_eq_false_iff, Option.isNone_some, Option.isSome_some, Option.isNone_none, Option.isSome_none, Int.not_lt, Int.not_le, beq_iff_eq, beq_eq_false_iff_ne, bne_iff_ne, ne_eq, Bool.not_not, Decidable.not_not] at h39
      refine JO.no rfl rfl rfl ?_
      refine JO.no rfl rfl rfl ?_
      refine JO.no rfl rfl rfl ?_
      refine JO.no rfl rfl rfl ?_
      refine JO.no rfl rfl rfl ?_
      refine JO.no rfl rfl rfl ?_
      refine JO.no rfl rfl rfl ?_
      refine JO.no rfl rfl rfl ?_
      refine JO.pur rfl rfl rfl (Pur.pickF rfl rfl) ?_
      refine JO.pur rfl rfl rfl (Pur.assign rfl) ?_
      refine JO.pur rfl rfl rfl (Pur.assign rfl) ?_
      refine JO.nil ?_
      refine J.ret rfl rfl ?_
      refine ⟨_, _, ⟨rfl, rfl⟩, ?_, SubC.out⟩
      rw [hcn, decide_eq_false (fun g => by have := (hmi.1 g).1; omega)]; rfl

theorem s_find {L : List Asn} {a la xa : Option Addr} {n cap ln lc xn xc : Nat} {rs : List Rg} {hs : List Hdr} {xss : List (List Int)} {x : List Int} [SlIn rgE L a rs] [SlIn hE L la hs] [RowsR intE L hs xss] [SlIn intE L xa x] (hn : n = rs.length) (hl : ln = hs.length) (hxn : xn = x.length) (hs0 : okS rs xss) :
    CallS Try.prog 85 [.agg #[.slice a n cap, .slice la ln lc], .slice xa xn xc].toArray L (fun v M => v = .tuple #[.int .i64 (fndV rs xss x).1, .bool (fndV rs xss x).2] ∧ M = L) := by
  subst hn
  subst hl
  subst hxn
  refine CallS.fact (fun h s => RowsR.len (E := intE) (hs := hs) (xss := xss) s) fun hnn => ?_
  have hhl : hs.length = xss.length := rows_len hnn
  refine CallS.ent ?_
  refine CallS.enter Try.func85 rfl rfl rfl rfl rfl ?_
  refine J.seq rfl ?_
  refine J.region rfl ?_
  refine JO.eff rfl rfl rfl (Eff.box (cs := [_, _]) rfl rfl) ?_
  rintro _ _ ⟨b2, rfl, rfl⟩
  refine JO.pur rfl rfl rfl (Pur.assign rfl) ?_
  refine JO.pur rfl rfl rfl (Pur.assign rfl) ?_
  refine JO.nil ?_
  refine J.seq rfl ?_
  refine J.region rfl ?_
  refine JO.pur rfl rfl rfl (Pur.fieldAddr rfl) ?_
  refine JO.pur rfl rfl rfl (Pur.loadA rfl rfl rfl (CellsIn.sub1 rfl)) ?_
  refine JO.pur rfl rfl rfl (Pur.move rfl) ?_
  refine JO.effR rfl rfl rfl (Eff.call rfl (d_Place (rs := rs) (x := x) rfl rfl)) ?_
  refine JO.pur rfl rfl rfl (Pur.move rfl) ?_
  refine JO.pur rfl rfl rfl (Pur.extract rfl rfl) ?_
  refine JO.setv (u' := .int .i64 (plV rs x).1) 13 rfl rfl ?_
  refine JO.pur rfl rfl rfl (Pur.extract rfl rfl) ?_
  refine JO.pur rfl rfl rfl (Pur.assign rfl) ?_
  refine JO.pur rfl rfl rfl (Pur.assign rfl) ?_
  refine JO.nil ?_
  refine J.seq rfl ?_
  refine J.seq rfl ?_
  refine J.region rfl ?_
  refine JO.pur rfl rfl rfl (Pur.move rfl) ?_
  refine JO.pur rfl rfl rfl (Pur.neqI rfl rfl) ?_
  refine JO.nil ?_
  refine J.splitB 16 rfl (fun h16 => ?_) (fun h16 => ?_)
  · try simp only [decide_eq_true_eq, decide_eq_false_iff_not, Bool.not_eq_true', Bool.not_eq_false', Bool.and_eq_true, Bool.or_eq_true, Bool.and_eq_false_iff, Bool.or_eq_false_iff, Option.isNone_some, Option.isSome_some, Option.isNone_none, Option.isSome_none, Int.not_lt, Int.not_le, beq_iff_eq, beq_eq_false_iff_ne, bne_iff_ne, ne_eq, Bool.not_not, Decidable.not_not] at h16
    have hbad : (plV rs x).2 ≠ 0 := by simpa using h16
    refine J.condT rfl rfl ?_
    refine J.seq rfl ?_
    refine J.region rfl ?_
    refine JO.pur rfl rfl rfl (Pur.assign rfl) ?_
    refine JO.pur rfl rfl rfl (Pur.assign rfl) ?_
    refine JO.nil ?_
    refine J.ret rfl rfl ?_
    refine ⟨_, _, ⟨rfl, rfl⟩, by rw [fndV_no hbad]; rfl, SubC.out⟩
  · try simp only [decide_eq_true_eq, decide_eq_false_iff_not, Bool.not_eq_true', Bool.not_eq_false', Bool.and_eq_true, Bool.or_eq_true, Bool.and_eq_false_iff, Bool.or_eq_false_iff, Option.isNone_some, Option.isSome_some, Option.isNone_none, Option.isSome_none, Int.not_lt, Int.not_le, beq_iff_eq, beq_eq_false_iff_ne, bne_iff_ne, ne_eq, Bool.not_not, Decidable.not_not] at h16
    have hgd : (plV rs x).2 = 0 := by simpa using h16
    have hsome := (plV_ok hs0.1 x).1.1 hgd
    have hpv := (plV_ok hs0.1 x).2 hsome
    refine J.condF rfl rfl ?_
    refine J.skip rfl ?_
    refine J.seq rfl ?_
    rw [hpv]
    refine J.region rfl ?_
    refine JO.pur rfl rfl rfl (Pur.fieldAddr rfl) ?_
    refine JO.pur rfl rfl rfl (Pur.load rfl (CellIn.blk rfl)) ?_
    refine JO.pur rfl rfl rfl (Pur.move rfl) ?_
    refine JO.pur rfl rfl rfl (Pur.makeFunc rfl rfl) ?_
    refine JO.effR rfl rfl rfl (Eff.call rfl (bsearch (rs := rs) (hs := hs) (xss := xss) (x := x) rfl rfl hs0 hsome)) ?_
    refine JO.pur rfl rfl rfl (Pur.extract rfl rfl) ?_
    refine JO.pur rfl rfl rfl (Pur.extract rfl rfl) ?_
    refine JO.pur rfl rfl rfl (Pur.assign rfl) ?_
    refine JO.pur rfl rfl rfl (Pur.assign rfl) ?_
    refine JO.nil ?_
    refine J.ret rfl rfl ?_
    refine ⟨_, _, ⟨rfl, rfl⟩, by rw [fndV_yes hgd]; rfl, SubC.out⟩

theorem s_Has {L : List Asn} {a la xa : Option Addr} {n cap ln lc xn xc : Nat} {rs : List Rg} {hs : List Hdr} {xss : List (List Int)} {x : List Int} [SlIn rgE L a rs] [SlIn hE L la hs] [RowsR intE L hs xss] [SlIn intE L xa x] (hn : n = rs.length) (hl : ln = hs.length) (hxn : xn = x.length) :
    CallS Try.prog 22 [.agg #[.slice a n cap, .slice la ln lc], .slice xa xn xc].toArray L (fun v M => v = .tuple #[.bool (hasS rs xss x).1, .int .i64 (hasS rs xss x).2] ∧ M = L) := by
  subst hn
  subst hl
  subst hxn
  refine CallS.fact (fun h s => RowsR.len (E := intE) (hs := hs) (xss := xss) s) fun hnn => ?_
  have hhl : hs.length = xss.length := rows_len hnn
  refine CallS.ent ?_
  refine CallS.enter Try.func22 rfl rfl rfl rfl rfl ?_
  refine J.seq rfl ?_
  refine J.region rfl ?_
  refine JO.eff rfl rfl rfl (Eff.box (cs := [_, _]) rfl rfl) ?_
  rintro _ _ ⟨b2, rfl, rfl⟩
  refine JO.pur rfl rfl rfl (Pur.assign rfl) ?_
  refine JO.pur rfl rfl rfl (Pur.assign rfl) ?_
  refine JO.nil ?_
  refine J.seq rfl ?_
  refine J.seq rfl ?_
  refine J.region rfl ?_
  refine JO.pur rfl rfl rfl (Pur.loadA rfl rfl rfl CellsIn.blk) ?_
  refine JO.effR rfl rfl rfl (Eff.call rfl (s_Valid (rs := rs) (hs := hs) (xss := xss) rfl rfl)) ?_
  refine JO.pur rfl rfl rfl (Pur.not rfl) ?_
  refine JO.nil ?_
  refine J.splitB 10 rfl (fun h10 => ?_) (fun h10 => ?_)
  · try simp only [decide_eq_true_eq, decide_eq_false_iff_not, Bool.not_eq_true', Bool.not_eq_false', Bool.and_eq_true, Bool.or_eq_true, Bool.and_eq_false_iff, Bool.or_eq_false_iff, Option.isNone_some, Option.isSome_some, Option.isNone_none, Option.isSome_none, Int.not_lt, Int.not_le, beq_iff_eq, beq_eq_false_iff_ne, bne_iff_ne, ne_eq, Bool.not_not, Decidable.not_not] at h10
    have hns : ¬ okS rs xss := h10
    refine J.condT rfl rfl ?_
    refine J.seq rfl ?_
    refine J.region rfl ?_
    refine JO.pur rfl rfl rfl (Pur.assign rfl) ?_
    refine JO.pur rfl rfl rfl (Pur.assign rfl) ?_
    refine JO.nil ?_
    refine J.ret rfl rfl ?_
    have hv : hasS rs xss x = (false, 50) := by unfold hasS; rw [if_pos hns]
    refine ⟨_, _, ⟨rfl, rfl⟩, by rw [hv]; rfl, SubC.out⟩
  · try simp only [decide_eq_true_eq, decide_eq_false_iff_not, Bool.not_eq_true', Bool.not_eq_false', Bool.and_eq_true, Bool.or_eq_true, Bool.and_eq_false_iff, Bool.or_eq_false_iff, Option.isNone_some, Option.isSome_some, Option.isNone_none, Option.isSome_none, Int.not_lt, Int.not_le, beq_iff_eq, beq_eq_false_iff_ne, bne_iff_ne, ne_eq, Bool.not_not, Decidable.not_not] at h10
    have hs0 : okS rs xss := h10
    refine J.condF rfl rfl ?_
    refine J.skip rfl ?_
    refine J.seq rfl ?_
    refine J.region rfl ?_
    refine JO.pur rfl rfl rfl (Pur.loadA rfl rfl rfl CellsIn.blk) ?_
    refine JO.pur rfl rfl rfl (Pur.move rfl) ?_
    refine JO.effR rfl rfl rfl (Eff.call rfl (s_find (rs := rs) (hs := hs) (xss := xss) (x := x) rfl rfl rfl hs0)) ?_
    refine JO.pur rfl rfl rfl (Pur.move rfl) ?_
    refine JO.pur rfl rfl rfl (Pur.extract rfl rfl) ?_
    refine JO.pur rfl rfl rfl (Pur.extract rfl rfl) ?_
    refine JO.pur rfl rfl rfl (Pur.assign rfl) ?_
    refine JO.pur rfl rfl rfl (Pur.assign rfl) ?_
    refine JO.nil ?_
    refine J.seq rfl ?_
    refine J.region rfl ?_
    refine JO.pur rfl rfl rfl (Pur.move rfl) ?_
    refine JO.pur rfl rfl rfl (Pur.assign rfl) ?_
    refine JO.pur rfl rfl rfl (Pur.assign rfl) ?_
    refine JO.nil ?_
    refine J.ret rfl rfl ?_
    have hv : hasS rs xss x = (decide (x ∈ xss), 0) := by unfold hasS; rw [if_neg (not_not_intro hs0)]
    refine ⟨_, _, ⟨rfl, rfl⟩, by rw [hv, ← fnd_mem hs0 x]; rfl, SubC.out⟩

theorem wide_ok {L : List Asn} {a : Option Addr} {n cap : Nat} {rs : List Rg} [SlIn rgE L a rs] (hn : n = rs.length) :
    CallS Try.prog 28 [.agg #[.slice a n cap]].toArray L (fun v M => v = .bool (decide (20 < (rs.length : Int))) ∧ M = L) := by
  subst hn
  refine CallS.ent ?_
  refine CallS.enter Try.func28 rfl rfl rfl rfl rfl ?_
  refine J.seq rfl ?_
  refine J.region rfl ?_
  refine JO.eff rfl rfl rfl (Eff.box (cs := [_]) rfl rfl) ?_
  rintro _ _ ⟨b1, rfl, rfl⟩
  refine JO.pur rfl rfl rfl (Pur.assign rfl) ?_
  refine JO.nil ?_
  refine J.seq rfl ?_
  refine J.region rfl ?_
  refine JO.pur rfl rfl rfl (Pur.fieldAddr rfl) ?_
  refine JO.pur rfl rfl rfl (Pur.load rfl (CellIn.blk rfl)) ?_
  refine JO.pur rfl rfl rfl (Pur.len rfl) ?_
  refine JO.pur rfl rfl rfl (Pur.gtr rfl rfl) ?_
  refine JO.pur rfl rfl rfl (Pur.assign rfl) ?_
  refine JO.nil ?_
  refine J.ret rfl rfl ?_
  exact ⟨_, _, ⟨rfl, rfl⟩, rfl, SubC.out⟩

def longV (xss : List (List Int)) : Bool := !decide ((∀ x ∈ xss, x.length ≤ 20) ∧ xss.length ≤ 200)
theorem long_end {xss : List (List Int)} {n : Nat} (hall : ∀ x ∈ xss, x.length ≤ 20) (hn : n = xss.length) : decide ((200 : Int) < (n : Int)) = longV xss := by
  subst hn
  unfold longV
  by_cases g : xss.length ≤ 200
  · rw [decide_eq_true (⟨hall, g⟩ : (∀ x ∈ xss, x.length ≤ 20) ∧ xss.length ≤ 200)]
    exact decide_eq_false (by omega)
  · rw [decide_eq_false (fun g2 : (∀ x ∈ xss, x.length ≤ 20) ∧ xss.length ≤ 200 => g g2.2)]
    exact decide_eq_true (by omega)
def largeS (rs : List Rg) (xss : List (List Int)) : Bool := decide (20 < (rs.length : Int)) || longV xss
theorem long_ok {L : List Asn} {la : Option Addr} {ln lc : Nat} {hs : List Hdr} {xss : List (List Int)} [SlIn hE L la hs] [RowsR intE L hs xss] (hl : ln = hs.length) (hb : hs.length ≤ 9223372036854775807) :
    CallS Try.prog 45 [.slice la ln lc].toArray L (fun v M => v = .bool (longV xss) ∧ M = L) := by
  subst hl
  refine CallS.fact (fun h s => RowsR.len (E := intE) (hs := hs) (xss := xss) s) fun hnn => ?_
  have hhl : hs.length = xss.length := rows_len hnn
  refine CallS.ent ?_
  refine CallS.enter Try.func45 rfl rfl rfl rfl rfl ?_
  refine J.seq rfl ?_
  refine J.region rfl ?_
  refine JO.pur rfl rfl rfl (Pur.assign rfl) ?_
  refine JO.nil ?_
  refine J.seq rfl ?_
  refine J.seq rfl ?_
  refine J.region rfl ?_
  refine JO.pur rfl rfl rfl (Pur.assign rfl) ?_
  refine JO.nil ?_
  refine J.block rfl ?_
  refine J.loopF (ι := Nat) (fun q => q ≤ xss.length ∧ ∀ j x, j < q → xss[j]? = some x → x.length ≤ 20) (fun q => [(3, .int .i64 (q : Int))]) [(0, _)] (fun q => L) (fun q => xss.length - q) 0 rfl (.cons rfl rfl .nil) (.cons rfl rfl .nil) (by first | exact fun _ h => h | exact SubC.out | (dsimp only; exact SubC.out)) ⟨Nat.zero_le _, fun j x hj => absurd hj (Nat.not_lt_zero j)⟩ ?_
  rintro k ⟨hk, hok⟩ ih0
  try dsimp only
  refine J.seq rfl ?_
  refine J.seq rfl ?_
  refine J.region rfl ?_
  refine JO.pur rfl rfl rfl (Pur.move rfl) ?_
  refine JO.pur rfl rfl rfl (Pur.move rfl) ?_
  refine JO.pur rfl rfl rfl (Pur.len rfl) ?_
  refine JO.pur rfl rfl rfl (Pur.lss rfl rfl) ?_
  refine JO.nil ?_
  refine J.splitB 7 rfl (fun h7 => ?_) (fun h7 => ?_)
  · try simp only [decide_eq_true_eq, decide_eq_false_iff_not, Bool.not_eq_true', Bool.not_eq_false', Bool.and_eq_true, Bool.or_eq_true, Bool.and_eq_false_iff, Bool.or_eq_false_iff, Option.isNone_some, Option.isSome_some, Option.isNone_none, Option.isSome_none, Int.not_lt, Int.not_le, beq_iff_eq, beq_eq_false_iff_ne, bne_iff_ne, ne_eq, Bool.not_not, Decidable.not_not] at h7
    have hkl : k < xss.length := by omega
    obtain ⟨x, hX⟩ : ∃ x, xss[k]? = some x := ⟨_, List.getElem?_eq_getElem (by omega)⟩
    obtain ⟨hd, hH⟩ : ∃ hd, hs[k]? = some hd := ⟨_, List.getElem?_eq_getElem (by omega)⟩
    have hdn := hdr_n hnn hH hX
    have hxm := List.mem_of_getElem? hX
    have hxg : xss.getD k [] = x := getD_of' hX
    refine J.condT rfl rfl ?_
    refine J.skip rfl ?_
    refine J.seq rfl ?_
    refine J.block rfl ?_
    refine J.seq rfl ?_
    refine J.region rfl ?_
    refine JO.pur rfl rfl rfl (Pur.move rfl) ?_
    refine JO.pur rfl rfl rfl (Pur.move rfl) ?_
    refine JO.pur rfl rfl rfl (Pur.idx rfl rfl rfl (by first | rfl | (simp; done) | omega) rfl (by omega)) ?_
    refine JO.pur rfl rfl rfl (Pur.load rfl (CellIn.el0 rfl hH rfl)) ?_
    refine JO.setv (u' := .slice hd.a x.length hd.cap) 13 rfl (by rw [← hdn]) ?_
    refine JO.pur rfl rfl rfl (Pur.len rfl) ?_
    refine JO.pur rfl rfl rfl (Pur.gtr rfl rfl) ?_
    refine JO.nil ?_
    refine J.splitB 15 rfl (fun h15 => ?_) (fun h15 => ?_)
    · try simp only [decide_eq_true_eq, decide_eq_false_iff_not, Bool.not_eq_true', Bool.not_eq_false', Bool.and_eq_true, Bool.or_eq_true, Bool.and_eq_false_iff, Bool.or_eq_false_iff, Option.isNone_some, Option.isSome_some, Option.isNone_none, Option.isSome_none, Int.not_lt, Int.not_le, beq_iff_eq, beq_eq_false_iff_ne, bne_iff_ne, ne_eq, Bool.not_not, Decidable.not_not] at h15
      have hbig : ¬ x.length ≤ 20 := by omega
      refine J.condT rfl rfl ?_
      refine J.seq rfl ?_
      refine J.region rfl ?_
      refine JO.pur rfl rfl rfl (Pur.assign rfl) ?_
      refine JO.nil ?_
      refine J.ret rfl rfl ?_
      refine ⟨_, _, ⟨rfl, rfl⟩, congrArg Value.bool (by unfold longV; rw [decide_eq_false (fun g => hbig (g.1 x hxm))]; rfl), SubC.out⟩
    · try simp only [decide_eq_true_eq, decide_eq_false_iff_not, Bool.not_eq_true', Bool.not_eq_false', Bool.and_eq_true, Bool.or_eq_true, Bool.and_eq_false_iff, Bool.or_eq_false_iff, Option.isNone_some, Option.isSome_some, Option.isNone_none, Option.isSome_none, Int.not_lt, Int.not_le, beq_iff_eq, beq_eq_false_iff_ne, bne_iff_ne, ne_eq, Bool.not_not, Decidable.not_not] at h15
      have hok2 : ∀ j y, j < k + 1 → xss[j]? = some y → y.length ≤ 20 := fun j y hj hy => by
        rcases Nat.lt_or_ge j k with h | h
        · exact hok j y h hy
        · obtain rfl : j = k := by omega
          rw [hX] at hy; obtain rfl := Option.some.inj hy; omega
      refine J.condF rfl rfl ?_
      refine J.skip rfl ?_
      refine J.inBlock ?_
      refine J.region rfl ?_
      refine JO.pur rfl rfl rfl (Pur.move rfl) ?_
      refine JO.pur rfl rfl rfl (Pur.add rfl rfl (wr64 (by omega))) ?_
      refine JO.pur rfl rfl rfl (Pur.assign rfl) ?_
      refine JO.nil ?_
      exact J.weaken (.cons rfl (congrArg (Value.int .i64) (by first | rfl | (dsimp only; omega))) (.cons rfl rfl .nil)) (by first | exact fun _ h => h | exact SubC.out | (dsimp only; exact SubC.out)) (ih0 (k + 1) ⟨by omega, hok2⟩ (by omega))
  · try simp only [decide_eq_true_eq, decide_eq_false_iff_not, Bool.not_eq_true', Bool.not_eq_false', Bool.and_eq_true, Bool.or_eq_true, Bool.and_eq_false_iff, Bool.or_eq_false_iff, Option.isNone_some, Option.isSome_some, Option.isNone_none, Option.isSome_none, Int.not_lt, Int.not_le, beq_iff_eq, beq_eq_false_iff_ne, bne_iff_ne, ne_eq, Bool.not_not, Decidable.not_not] at h7
    refine J.condF rfl rfl ?_
    refine J.exit rfl rfl ?_
    refine J.seq rfl ?_
    refine J.region rfl ?_
    refine JO.pur rfl rfl rfl (Pur.move rfl) ?_
    refine JO.pur rfl rfl rfl (Pur.len rfl) ?_
    refine JO.pur rfl rfl rfl (Pur.gtr rfl rfl) ?_
    refine JO.pur rfl rfl rfl (Pur.assign rfl) ?_
    refine JO.nil ?_
    refine J.ret rfl rfl ?_
    have hall : ∀ x ∈ xss, x.length ≤ 20 := fun x hx => by obtain ⟨j, hj, e⟩ := List.getElem_of_mem hx; exact hok j x (by omega) (by rw [List.getElem?_eq_getElem hj, e])
    refine ⟨_, _, ⟨rfl, rfl⟩, congrArg Value.bool (long_end hall hhl), SubC.out⟩

theorem largeS_ok {L : List Asn} {a la : Option Addr} {n cap ln lc : Nat} {rs : List Rg} {hs : List Hdr} {xss : List (List Int)} [SlIn rgE L a rs] [SlIn hE L la hs] [RowsR intE L hs xss] (hn : n = rs.length) (hl : ln = hs.length) (hb : hs.length ≤ 9223372036854775807) :
    CallS Try.prog 20 [.agg #[.slice a n cap, .slice la ln lc]].toArray L (fun v M => v = .bool (largeS rs xss) ∧ M = L) := by
  subst hn
  subst hl
  refine CallS.fact (fun h s => RowsR.len (E := intE) (hs := hs) (xss := xss) s) fun hnn => ?_
  have hhl : hs.length = xss.length := rows_len hnn
  refine CallS.ent ?_
  refine CallS.enter Try.func20 rfl rfl rfl rfl rfl ?_
  refine J.seq rfl ?_
  refine J.region rfl ?_
  refine JO.eff rfl rfl rfl (Eff.box (cs := [_, _]) rfl rfl) ?_
  rintro _ _ ⟨b1, rfl, rfl⟩
  refine JO.pur rfl rfl rfl (Pur.assign rfl) ?_
  refine JO.nil ?_
  refine J.seq rfl ?_
  refine J.region rfl ?_
  refine JO.pur rfl rfl rfl (Pur.fieldAddr rfl) ?_
  refine JO.pur rfl rfl rfl (Pur.loadA rfl rfl rfl (CellsIn.sub1 rfl)) ?_
  refine JO.effR rfl rfl rfl (Eff.call rfl (wide_ok (rs := rs) rfl)) ?_
  refine JO.pur rfl rfl rfl (Pur.move rfl) ?_
  refine JO.splitB 6 rfl (fun h6 => ?_) (fun h6 => ?_)
  · try simp only [decide_eq_true_eq, decide_eq_false_iff_not, Bool.not_eq_true', Bool.not_eq_false', Bool.and_eq_true, Bool.or_eq_true, Bool.and_eq_false_iff, Bool.or_eq_false_iff, Option.isNone_some, Option.isSome_some, Option.isNone_none, Option.isSome_none, Int.not_lt, Int.not_le, beq_iff_eq, beq_eq_false_iff_ne, bne_iff_ne, ne_eq, Bool.not_not, Decidable.not_not] at h6
    refine JO.no rfl rfl rfl ?_
    refine JO.no rfl rfl rfl ?_
    refine JO.no rfl rfl rfl ?_
    refine JO.pur rfl rfl rfl (Pur.pickT rfl rfl) ?_
    refine JO.pur rfl rfl rfl (Pur.assign rfl) ?_
    refine JO.nil ?_
    refine J.ret rfl rfl ?_
    refine ⟨_, _, ⟨rfl, rfl⟩, congrArg Value.bool (by unfold largeS; rw [decide_eq_true h6]; rfl), SubC.out⟩
  · try simp only [decide_eq_true_eq, decide_eq_false_iff_not, Bool.not_eq_true', Bool.not_eq_false', Bool.and_eq_true, Bool.or_eq_true, Bool.and_eq_false_iff, Bool.or_eq_false_iff, Option.isNone_some, Option.isSome_some, Option.isNone_none, Option.isSome_none, Int.not_lt, Int.not_le, beq_iff_eq, beq_eq_false_iff_ne, bne_iff_ne, ne_eq, Bool.not_not, Decidable.not_not] at h6
    refine JO.pur rfl rfl rfl (Pur.fieldAddr rfl) ?_
    refine JO.pur rfl rfl rfl (Pur.load rfl (CellIn.blk rfl)) ?_
    refine JO.effR rfl rfl rfl (Eff.call rfl (long_ok (hs := hs) (xss := xss) rfl hb)) ?_
    refine JO.pur rfl rfl rfl (Pur.pickF rfl rfl) ?_
    refine JO.pur rfl rfl rfl (Pur.assign rfl) ?_
    refine JO.nil ?_
    refine J.ret rfl rfl ?_
    refine ⟨_, _, ⟨rfl, rfl⟩, congrArg Value.bool (by unfold largeS; rw [decide_eq_false (by omega)]; rfl), SubC.out⟩

end Go.Proofs.Ytnhippfllgnngaa
