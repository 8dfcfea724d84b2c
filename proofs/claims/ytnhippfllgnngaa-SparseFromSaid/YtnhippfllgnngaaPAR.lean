/-
  A part of the proof of the claim that this folder bears.
-/
import Derived.Test.YtnhippfllgnngaaPAQ
/- The text SJ3. -/
set_option linter.unusedVariables false
set_option linter.unusedSimpArgs false
set_option maxRecDepth 10000
namespace Go.Proofs.Ytnhippfllgnngaa
open Go Go.KK Dm

theorem eqRg (x y : Rg) (w : World) : (Op.equal 93 (.agg (rgE.enc x).toArray) (.agg (rgE.enc y).toArray)).run Try.prog w = .ok (decide (x = y)) w := by
  have hu := run_underlying (P := Try.prog) Try.underlying93 w
  have hi : (sizeOf 3).run Try.prog w = .ok 1 w := run_sizeOf_of (by kernel_rfl)
  have hs := Scl.run (P := Try.prog) (t := 3) (w := w) (by kernel_rfl)
  have he := fun a b => run_equalIn_int (P := Try.prog) w 9998 3 .i64 .i64 a b Try.underlying3
  have hst : Try.prog.stoodInHeld 93 = false := by kernel_rfl
  obtain ⟨a, b, c⟩ := x
  obtain ⟨a', b', c'⟩ := y
  unfold Op.equal
  rw [show Op.maxDepth = 9999 + 1 from rfl, Op.equalIn.eq_def]
  simp only [rgE, Sem.run_bind, hu, hi, Result.andThen_ok]
  simp [part, hs, he, hst, go_sem]
  by_cases h1 : a = a' <;> by_cases h2 : b = b' <;> by_cases h3 : c = c' <;> simp [h1, h2, h3]
instance : EqE Try.prog 93 rgE := ⟨by kernel_rfl, eqRg⟩
theorem asc_unique {a b : List Nat} (ha : a.Pairwise (· < ·)) (hb : b.Pairwise (· < ·)) (hm : ∀ n, n ∈ a ↔ n ∈ b) : a = b := by
  have na : a.Nodup := ha.imp fun h => by omega
  have nb : b.Nodup := hb.imp fun h => by omega
  have hp := (List.perm_ext_iff_of_nodup na nb).2 hm
  exact hp.eq_of_pairwise (le := fun x y => x < y) (fun x y _ _ h1 h2 => absurd h1 (by omega)) ha hb
/-- The indexes whose places are ascending are what is made of these. -/
theorem made_of {rs : List Rg} (h : okD rs) {ys : List (List Int)} (hs : ∀ y ∈ ys, (plD rs y).isSome = true) (ha : ys.Pairwise fun x y => atS rs x < atS rs y) : madeL rs (ys.map (atS rs)) = ys := by
  have hat : ∀ y ∈ ys, ((plD rs y).getD 0 < cntD rs) ∧ ixD rs ((plD rs y).getD 0) = y := fun y hy => by
    obtain ⟨n, hn⟩ := Option.isSome_iff_exists.1 (hs y hy)
    have h1 := plD_lt h.2.2.1 hn
    have h2 := (plD_iff h.2.2.1).1 hn
    rw [hn]
    refine ⟨h1, ?_⟩
    have := ixD_get h1
    rw [h2] at this
    exact (Option.some.inj this).symm
  have e1 : ys = (ys.map fun y => (plD rs y).getD 0).map (ixD rs) := by
    rw [List.map_map]
    conv => lhs; rw [← List.map_id ys]
    exact List.map_congr_left fun y hy => (hat y hy).2.symm
  unfold madeL
  conv => rhs; rw [e1]
  refine congrArg (List.map (ixD rs)) (asc_unique (List.Pairwise.filter _ List.pairwise_lt_range) ?_ fun n => ?_)
  · rw [List.pairwise_map]
    exact ha.imp fun h => by unfold atS at h; omega
  · simp only [List.mem_filter, List.mem_range, decide_eq_true_eq, List.mem_map]
    constructor
    · rintro ⟨_, y, hy, e⟩
      exact ⟨y, hy, by unfold atS at e; omega⟩
    · rintro ⟨y, hy, e⟩
      exact ⟨by rw [← e]; exact (hat y hy).1, y, hy, by unfold atS; omega⟩
theorem okS_pw {rs : List Rg} {xss : List (List Int)} (h : okS rs xss) : xss.Pairwise fun x y => atS rs x < atS rs y := by
  rw [List.pairwise_iff_getElem]
  intro i j hi hj hij
  have := okS_asc h j i hij hj
  rwa [List.getD_eq_getElem?_getD, List.getD_eq_getElem?_getD, List.getElem?_eq_getElem hi, List.getElem?_eq_getElem hj] at this
theorem made_filter {rs : List Rg} {xss : List (List Int)} (h : okS rs xss) (p : List Int → Bool) : madeL rs ((xss.filter p).map (atS rs)) = xss.filter p :=
  made_of h.1 (fun y hy => okS_some h (List.mem_filter.1 hy).1) ((okS_pw h).filter _)
theorem made_nil (rs : List Rg) : madeL rs [] = [] := by unfold madeL; simp
theorem made_all (rs : List Rg) : madeL rs ((List.range (cntD rs)).map fun (i : Nat) => (i : Int)) = idx rs := by
  unfold madeL
  rw [List.filter_eq_self.2 (fun i hi => decide_eq_true (List.mem_map.2 ⟨i, hi, rfl⟩))]
  apply List.ext_getElem?
  intro j
  by_cases hj : j < cntD rs
  · rw [List.getElem?_map, List.getElem?_range hj, ixD_get hj]; rfl
  · rw [List.getElem?_eq_none (by simp; omega), List.getElem?_eq_none (by rw [idx_len]; omega)]
theorem equalS_ok {L : List Asn} {a b la lb : Option Addr} {n cap m cq ln lc lm lq : Nat} {rs : List Rg} {hs hs2 : List Hdr} {xss : List (List Int)} [SlIn rgE L a rs] [SlIn rgE L b rs] [i1 : SlIn hE L la hs] [r1 : RowsR intE L hs xss] [i2 : SlIn hE L lb hs2] [r2 : RowsR intE L hs2 xss] (hn : n = rs.length) (hm : m = rs.length) (hl : ln = xss.length) (hl2 : lm = xss.length) (hrb : rs.length ≤ 1000000) (hxb : xss.length ≤ 1000000) (hrow : ∀ x ∈ xss, x.length ≤ 1000000) :
    CallS Try.prog 31 [.agg #[.slice a n cap, .slice la ln lc], .agg #[.slice b m cq, .slice lb lm lq]].toArray L (fun v M => v = .bool true ∧ M = L) := by
  subst hn
  subst hm
  subst hl
  subst hl2
  refine CallS.fact (fun h s => RowsR.len (E := intE) (hs := hs) (xss := xss) s) fun hnn => ?_
  have hhl : hs.length = xss.length := rows_len hnn
  refine CallS.fact (fun h s => RowsR.len (E := intE) (hs := hs2) (xss := xss) s) fun hnn2 => ?_
  have hhl2 : hs2.length = xss.length := rows_len hnn2
  refine CallS.ent ?_
  refine CallS.enter Try.func31 rfl rfl rfl rfl rfl ?_
  refine J.seq rfl ?_
  refine J.region rfl ?_
  refine JO.eff rfl rfl rfl (Eff.box (cs := [_, _]) rfl rfl) ?_
  rintro _ _ ⟨b2, rfl, rfl⟩
  refine JO.eff rfl rfl rfl (Eff.box (cs := [_, _]) rfl rfl) ?_
  rintro _ _ ⟨b3, rfl, rfl⟩
  refine JO.pur rfl rfl rfl (Pur.assign rfl) ?_
  refine JO.nil ?_
  refine J.seq rfl ?_
  refine J.seq rfl ?_
  refine J.region rfl ?_
  refine JO.pur rfl rfl rfl (Pur.fieldAddr rfl) ?_
  refine JO.pur rfl rfl rfl (Pur.fieldAddr rfl) ?_
  refine JO.pur rfl rfl rfl (Pur.load rfl (CellIn.blk rfl)) ?_
  refine JO.pur rfl rfl rfl (Pur.len rfl) ?_
  refine JO.pur rfl rfl rfl (Pur.fieldAddr rfl) ?_
  refine JO.pur rfl rfl rfl (Pur.fieldAddr rfl) ?_
  refine JO.pur rfl rfl rfl (Pur.load rfl (CellIn.blk rfl)) ?_
  refine JO.pur rfl rfl rfl (Pur.len rfl) ?_
  refine JO.pur rfl rfl rfl (Pur.neqI rfl rfl) ?_
  refine JO.pur rfl rfl rfl (Pur.move rfl) ?_
  refine JO.setv (u' := .bool false) 16 rfl (congrArg Value.bool (decide_eq_false (fun e => e rfl))) ?_
  refine JO.pur rfl rfl rfl (Pur.fieldAddr rfl) ?_
  refine JO.pur rfl rfl rfl (Pur.load rfl (CellIn.blk rfl)) ?_
  refine JO.pur rfl rfl rfl (Pur.len rfl) ?_
  refine JO.pur rfl rfl rfl (Pur.fieldAddr rfl) ?_
  refine JO.pur rfl rfl rfl (Pur.load rfl (CellIn.blk rfl)) ?_
  refine JO.pur rfl rfl rfl (Pur.len rfl) ?_
  refine JO.pur rfl rfl rfl (Pur.neqI rfl rfl) ?_
  refine JO.pur rfl rfl rfl (Pur.pickF rfl rfl) ?_
  refine JO.nil ?_
  refine J.setv (u' := .bool false) 24 rfl (congrArg Value.bool (decide_eq_false (fun e => e rfl))) ?_
  refine J.condF rfl rfl ?_
  refine J.skip rfl ?_
  refine J.seq rfl ?_
  refine J.seq rfl ?_
  refine J.region rfl ?_
  refine JO.pur rfl rfl rfl (Pur.assign rfl) ?_
  refine JO.nil ?_
  refine J.block rfl ?_
  refine J.loopF (ι := Nat) (fun q => q ≤ rs.length) (fun q => [(5, .int .i64 (q : Int))]) [(2, _), (3, _)] (fun q => blk b2 (.cells #[.slice a rs.length cap, .slice la xss.length lc] 27) :: blk b3 (.cells #[.slice b rs.length cq, .slice lb xss.length lq] 27) :: L) (fun q => rs.length - q) 0 rfl (.cons rfl rfl (.cons rfl rfl .nil)) (.cons rfl rfl .nil) (by first | exact fun _ h => h | exact SubC.out | (dsimp only; exact SubC.out)) (Nat.zero_le _) ?_
  rintro k hk ihk
  try dsimp only
  refine J.seq rfl ?_
  refine J.seq rfl ?_
  refine J.region rfl ?_
  refine JO.pur rfl rfl rfl (Pur.move rfl) ?_
  refine JO.pur rfl rfl rfl (Pur.fieldAddr rfl) ?_
  refine JO.pur rfl rfl rfl (Pur.fieldAddr rfl) ?_
  refine JO.pur rfl rfl rfl (Pur.load rfl (CellIn.blk rfl)) ?_
  refine JO.pur rfl rfl rfl (Pur.len rfl) ?_
  refine JO.pur rfl rfl rfl (Pur.lss rfl rfl) ?_
  refine JO.nil ?_
  refine J.splitB 30 rfl (fun h30 => ?_) (fun h30 => ?_)
  · try simp only [decide_eq_true_eq, decide_eq_false_iff_not, Bool.not_eq_true', Bool.not_eq_false', Bool.and_eq_true, Bool.or_eq_true, Bool.and_eq_false_iff, Bool.or_eq_false_iff, Option.isNone_some, Option.isSome_some, Option.isNone_none, Option.isSome_none, Int.not_lt, Int.not_le, beq_iff_eq, beq_eq_false_iff_ne, bne_iff_ne, ne_eq, Bool.not_not, Decidable.not_not] at h30
    have hkl : k < rs.length := by omega
    obtain ⟨r, hr⟩ : ∃ r, rs[k]? = some r := ⟨_, List.getElem?_eq_getElem hkl⟩
    refine J.condT rfl rfl ?_
    refine J.skip rfl ?_
    refine J.seq rfl ?_
    refine J.block rfl ?_
    refine J.seq rfl ?_
    refine J.quiet rfl Try.mixed (by kernel_rfl) ?_
    refine JQ.pur rfl rfl rfl (Pur.fieldAddr rfl) ?_
    refine JQ.pur rfl rfl rfl (Pur.fieldAddr rfl) ?_
    refine JQ.pur rfl rfl rfl (Pur.load rfl (CellIn.blk rfl)) ?_
    refine JQ.pur rfl rfl rfl (Pur.move rfl) ?_
    refine JQ.pur rfl rfl rfl (Pur.idx rfl rfl rfl (by first | rfl | (simp; done) | omega) rfl (by omega)) ?_
    refine JQ.pur rfl rfl rfl (Pur.loadA rfl rfl rfl (CellsIn.el rfl hr)) ?_
    refine JQ.pur rfl rfl rfl (Pur.fieldAddr rfl) ?_
    refine JQ.pur rfl rfl rfl (Pur.fieldAddr rfl) ?_
    refine JQ.pur rfl rfl rfl (Pur.load rfl (CellIn.blk rfl)) ?_
    refine JQ.pur rfl rfl rfl (Pur.move rfl) ?_
    refine JQ.pur rfl rfl rfl (Pur.idx rfl rfl rfl (by first | rfl | (simp; done) | omega) rfl (by omega)) ?_
    refine JQ.pur rfl rfl rfl (Pur.loadA rfl rfl rfl (CellsIn.el rfl hr)) ?_
    refine JQ.pur rfl rfl rfl (Pur.neqE (E := rgE) (a := r) (b := r) rfl rfl) ?_
    refine JQ.nil ?_
    refine J.setv (u' := .bool false) 45 rfl (congrArg Value.bool (decide_eq_false (fun e => e rfl))) ?_
    refine J.condF rfl rfl ?_
    refine J.skip rfl ?_
    refine J.inBlock ?_
    refine J.region rfl ?_
    refine JO.pur rfl rfl rfl (Pur.move rfl) ?_
    refine JO.pur rfl rfl rfl (Pur.add rfl rfl (wr64 (by omega))) ?_
    refine JO.pur rfl rfl rfl (Pur.assign rfl) ?_
    refine JO.nil ?_
    exact J.weaken (.cons rfl (congrArg (Value.int .i64) (by first | rfl | (dsimp only; omega))) (.cons rfl rfl (.cons rfl rfl .nil))) (by first | exact fun _ h => h | exact SubC.out | (dsimp only; exact SubC.out)) (ihk (k + 1) (by omega) (by omega))
  · try simp only [decide_eq_true_eq, decide_eq_false_iff_not, Bool.not_eq_true', Bool.not_eq_false', Bool.and_eq_true, Bool.or_eq_true, Bool.and_eq_false_iff, Bool.or_eq_false_iff, Option.isNone_some, Option.isSome_some, Option.isNone_none, Option.isSome_none, Int.not_lt, Int.not_le, beq_iff_eq, beq_eq_false_iff_ne, bne_iff_ne, ne_eq, Bool.not_not, Decidable.not_not] at h30
    refine J.condF rfl rfl ?_
    refine J.exit rfl rfl ?_
    refine J.seq rfl ?_
    refine J.seq rfl ?_
    refine J.region rfl ?_
    refine JO.pur rfl rfl rfl (Pur.assign rfl) ?_
    refine JO.nil ?_
    refine J.block rfl ?_
    refine J.loopF (ι := Nat) (fun q => q ≤ xss.length) (fun q => [(6, .int .i64 (q : Int))]) [(2, _), (3, _)] (fun q => blk b2 (.cells #[.slice a rs.length cap, .slice la xss.length lc] 27) :: blk b3 (.cells #[.slice b rs.length cq, .slice lb xss.length lq] 27) :: L) (fun q => xss.length - q) 0 rfl (.cons rfl rfl (.cons rfl rfl .nil)) (.cons rfl rfl .nil) (by first | exact fun _ h => h | exact SubC.out | (dsimp only; exact SubC.out)) (Nat.zero_le _) ?_
    rintro j hj ihj
    try dsimp only
    refine J.seq rfl ?_
    refine J.seq rfl ?_
    refine J.region rfl ?_
    refine JO.pur rfl rfl rfl (Pur.move rfl) ?_
    refine JO.pur rfl rfl rfl (Pur.fieldAddr rfl) ?_
    refine JO.pur rfl rfl rfl (Pur.load rfl (CellIn.blk rfl)) ?_
    refine JO.pur rfl rfl rfl (Pur.len rfl) ?_
    refine JO.pur rfl rfl rfl (Pur.lss rfl rfl) ?_
    refine JO.nil ?_
    refine J.splitB 50 rfl (fun h50 => ?_) (fun h50 => ?_)
    · try simp only [decide_eq_true_eq, decide_eq_false_iff_not, Bool.not_eq_true', Bool.not_eq_false', Bool.and_eq_true, Bool.or_eq_true, Bool.and_eq_false_iff, Bool.or_eq_false_iff, Option.isNone_some, Option.isSome_some, Option.isNone_none, Option.isSome_none, Int.not_lt, Int.not_le, beq_iff_eq, beq_eq_false_iff_ne, bne_iff_ne, ne_eq, Bool.not_not, Decidable.not_not] at h50
      have hjl : j < xss.length := by omega
      obtain ⟨x, hX⟩ : ∃ x, xss[j]? = some x := ⟨_, List.getElem?_eq_getElem hjl⟩
      obtain ⟨hd, hH⟩ : ∃ hd, hs[j]? = some hd := ⟨_, List.getElem?_eq_getElem (by omega)⟩
      obtain ⟨hd2, hH2⟩ : ∃ hd, hs2[j]? = some hd := ⟨_, List.getElem?_eq_getElem (by omega)⟩
      have hdn := hdr_n hnn hH hX
      have hdn2 := hdr_n hnn2 hH2 hX
      have hxl := hrow x (List.mem_of_getElem? hX)
      refine J.condT rfl rfl ?_
      refine J.skip rfl ?_
      refine J.seq rfl ?_
      refine J.block rfl ?_
      refine J.seq rfl ?_
      refine J.mask0 (n := 12) [] rfl Try.mixed rfl (by kernel_rfl) ?_
      refine JM.take 0 (fun _ h => h) rfl (by kernel_rfl) rfl rfl rfl (m' := 1) rfl (Pur.fieldAddr rfl) ?_
      refine JM.take 1 (fun _ h => h) rfl (by kernel_rfl) rfl rfl rfl (m' := 3) rfl (Pur.load rfl (CellIn.blk rfl)) ?_
      refine JM.take 2 (fun _ h => h) rfl (by kernel_rfl) rfl rfl rfl (m' := 7) rfl (Pur.move rfl) ?_
      refine JM.take 3 (fun _ h => h) rfl (by kernel_rfl) rfl rfl rfl (m' := 15) rfl (Pur.idx rfl rfl rfl (by first | rfl | (simp; done) | omega) rfl (by omega)) ?_
      refine JM.take 4 (fun _ h => h) rfl (by kernel_rfl) rfl rfl rfl (m' := 31) rfl (Pur.load rfl (CellIn.el0 rfl hH rfl)) ?_
      refine JM.setv (u' := .slice hd.a x.length hd.cap) 57 rfl (by rw [← hdn]) ?_
      refine JM.take 5 (fun _ h => h) rfl (by kernel_rfl) rfl rfl rfl (m' := 63) rfl (Pur.fieldAddr rfl) ?_
      refine JM.take 6 (fun _ h => h) rfl (by kernel_rfl) rfl rfl rfl (m' := 127) rfl (Pur.load rfl (CellIn.blk rfl)) ?_
      refine JM.take 7 (fun _ h => h) rfl (by kernel_rfl) rfl rfl rfl (m' := 255) rfl (Pur.move rfl) ?_
      refine JM.take 8 (fun _ h => h) rfl (by kernel_rfl) rfl rfl rfl (m' := 511) rfl (Pur.idx rfl rfl rfl (by first | rfl | (simp; done) | omega) rfl (by omega)) ?_
      refine JM.take 9 (fun _ h => h) rfl (by kernel_rfl) rfl rfl rfl (m' := 1023) rfl (Pur.load rfl (CellIn.el0 rfl hH2 rfl)) ?_
      refine JM.setv (u' := .slice hd2.a x.length hd2.cap) 62 rfl (by rw [← hdn2]) ?_
      refine JM.one (i := 10) (by kernel_rfl) ?_
      refine JMi.effR (fun _ h => h) rfl rfl rfl rfl (m' := 2047) rfl (Eff.call rfl (@same5_ok _ _ _ _ _ _ _ x x (RowsR.row (E := intE) (hs := hs) inferInstance hH hX) (RowsR.row (E := intE) (hs := hs2) inferInstance hH2 hX) rfl rfl hxl)) ?_
      refine JM.setv (u' := .bool true) 63 rfl (congrArg Value.bool (decide_eq_true rfl)) ?_
      refine JM.take 11 (fun _ h => h) rfl (by kernel_rfl) rfl rfl rfl (m' := 4095) rfl (Pur.not rfl) ?_
      refine JM.done rfl ?_
      refine J.condF rfl rfl ?_
      refine J.skip rfl ?_
      refine J.inBlock ?_
      refine J.region rfl ?_
      refine JO.pur rfl rfl rfl (Pur.move rfl) ?_
      refine JO.pur rfl rfl rfl (Pur.add rfl rfl (wr64 (by omega))) ?_
      refine JO.pur rfl rfl rfl (Pur.assign rfl) ?_
      refine JO.nil ?_
      exact J.weaken (.cons rfl (congrArg (Value.int .i64) (by first | rfl | (dsimp only; omega))) (.cons rfl rfl (.cons rfl rfl .nil))) (by first | exact fun _ h => h | exact SubC.out | (dsimp only; exact SubC.out)) (ihj (j + 1) (by omega) (by omega))
    · try simp only [decide_eq_true_eq, decide_eq_false_iff_not, Bool.not_eq_true', Bool.not_eq_false', Bool.and_eq_true, Bool.or_eq_true, Bool.and_eq_false_iff, Bool.or_eq_false_iff, Option.isNone_some, Option.isSome_some, Option.isNone_none, Option.isSome_none, Int.not_lt, Int.not_le, beq_iff_eq, beq_eq_false_iff_ne, bne_iff_ne, ne_eq, Bool.not_not, Decidable.not_not] at h50
      refine J.condF rfl rfl ?_
      refine J.exit rfl rfl ?_
      refine J.seq rfl ?_
      refine J.region rfl ?_
      refine JO.pur rfl rfl rfl (Pur.assign rfl) ?_
      refine JO.nil ?_
      refine J.ret rfl rfl ?_
      refine ⟨_, _, ⟨rfl, rfl⟩, rfl, SubC.out⟩

end Go.Proofs.Ytnhippfllgnngaa

/- The text SJ4. -/
set_option linter.unusedVariables false
set_option linter.unusedSimpArgs false
set_option maxRecDepth 10000
namespace Go.Proofs.Ytnhippfllgnngaa
open Go Go.KK Dm

abbrev SpR := (List Rg × List (List Int)) × Int
def newS (rs : List Rg) : SpR := if ¬ okD rs then (([], []), 50) else ((rs, []), 0)
def denS (rs : List Rg) : SpR := if ¬ okD rs then (([], []), 50) else if 400 < cntD rs then (([], []), 4) else ((rs, idx rs), 0)
def prtS (rs : List Rg) (xss : List (List Int)) (ss : List Rg) : SpR := if ¬ (okS rs xss ∧ okD ss) then (([], []), 50) else if ss.length ≠ rs.length then (([], []), 2) else ((rs, xss.filter fun x => (hasV ss x).1), 0)
theorem s_New {L : List Asn} {a : Option Addr} {n cap : Nat} {rs : List Rg} [SlIn rgE L a rs] (hn : n = rs.length) :
    CallS Try.prog 34 [.agg #[.slice a n cap]].toArray L (fun w M => ∃ pa pc qa qc hs', w = .tuple #[.agg #[.slice pa (newS rs).1.1.length pc, .slice qa (newS rs).1.2.length qc], .int .i64 (newS rs).2] ∧ M = sl rgE pa pc (newS rs).1.1 :: sl hE qa qc hs' :: rows intE hs' (newS rs).1.2 :: L) := by
  subst hn
  refine CallS.ent ?_
  refine CallS.enter Try.func34 rfl rfl rfl rfl rfl ?_
  refine J.seq rfl ?_
  refine J.region rfl ?_
  refine JO.eff rfl rfl rfl (Eff.box (cs := [_]) rfl rfl) ?_
  rintro _ _ ⟨b1, rfl, rfl⟩
  refine JO.eff rfl rfl rfl (Eff.alloc (cs := [_, _]) rfl) ?_
  rintro _ _ ⟨b2, rfl, rfl⟩
  refine JO.pur rfl rfl rfl (Pur.assign rfl) ?_
  refine JO.nil ?_
  refine J.seq rfl ?_
  refine J.seq rfl ?_
  refine J.region rfl ?_
  refine JO.pur rfl rfl rfl (Pur.loadA rfl rfl rfl CellsIn.blk) ?_
  refine JO.effR rfl rfl rfl (Eff.call rfl (d_Valid (rs := rs) rfl)) ?_
  refine JO.pur rfl rfl rfl (Pur.not rfl) ?_
  refine JO.nil ?_
  refine J.splitB 6 rfl (fun h6 => ?_) (fun h6 => ?_)
  · try simp only [decide_eq_true_eq, decide_eq_false_iff_not, Bool.not_eq_true', Bool.not_eq_false', Bool.and_eq_true, Bool.or_eq_true, Bool.and_eq_false_iff, Bool.or_eq_false_iff, Option.isNone_some, Option.isSome_some, Option.isNone_none, Option.isSome_none, Int.not_lt, Int.not_le, beq_iff_eq, beq_eq_false_iff_ne, bne_iff_ne, ne_eq, Bool.not_not, Decidable.not_not] at h6
    have hbad : ¬ okD rs := h6
    refine J.condT rfl rfl ?_
    refine J.seq rfl ?_
    refine J.region rfl ?_
    refine JO.pur rfl rfl rfl (Pur.build (cs := [_, _]) rfl rfl) ?_
    refine JO.effN rfl rfl (Eff.storeBA (cs' := [_, _]) rfl rfl (by rfl) (by rfl) (by rfl)) ?_
    rintro _ _ ⟨rfl, rfl⟩
    refine JO.pur rfl rfl rfl (Pur.assign rfl) ?_
    refine JO.nil ?_
    refine J.retC rfl (.cell rfl (ld_agg rfl CellsIn.blk) (.tmp rfl .nil)) ?_
    have hv : newS rs = (([], []), 50) := by unfold newS; rw [if_pos hbad]
    refine ⟨_, _, ⟨none, 0, none, 0, [], rfl, rfl⟩, by rw [hv]; rfl, fun h s => ?_⟩
    rw [hv]; exact sl_nil_new (sl_nil_new (rows_nil (SubC.out h s)))
  · try simp only [decide_eq_true_eq, decide_eq_false_iff_not, Bool.not_eq_true', Bool.not_eq_false', Bool.and_eq_true, Bool.or_eq_true, Bool.and_eq_false_iff, Bool.or_eq_false_iff, Option.isNone_some, Option.isSome_some, Option.isNone_none, Option.isSome_none, Int.not_lt, Int.not_le, beq_iff_eq, beq_eq_false_iff_ne, bne_iff_ne, ne_eq, Bool.not_not, Decidable.not_not] at h6
    have hgd : okD rs := h6
    have hv : newS rs = ((rs, []), 0) := by unfold newS; rw [if_neg (not_not_intro hgd)]
    refine J.condF rfl rfl ?_
    refine J.skip rfl ?_
    refine J.seq rfl ?_
    refine J.region rfl ?_
    refine JO.pur rfl rfl rfl (Pur.loadA rfl rfl rfl CellsIn.blk) ?_
    refine JO.eff rfl rfl rfl (Eff.call rfl (cloneD (rs := rs) rfl hgd)) ?_
    rintro _ _ ⟨a9, c9, rfl, rfl⟩
    refine JO.pur rfl rfl rfl (Pur.build (cs := [_, _]) rfl rfl) ?_
    refine JO.effN rfl rfl (Eff.storeBA (cs' := [_, _]) rfl rfl (by rfl) (by rfl) (by rfl)) ?_
    rintro _ _ ⟨rfl, rfl⟩
    refine JO.pur rfl rfl rfl (Pur.assign rfl) ?_
    refine JO.nil ?_
    refine J.retC rfl (.cell rfl (ld_agg rfl CellsIn.blk) (.tmp rfl .nil)) ?_
    refine ⟨_, _, ⟨a9, c9, none, 0, [], rfl, rfl⟩, by rw [hv]; rfl, fun h s => ?_⟩
    rw [hv]
    have s2 := sl_nil_new (E := hE) (rows_nil (E := intE) s)
    exact SubC.out (L := sl hE none 0 [] :: rows intE [] [] :: _) h s2

theorem rs_New {L : List Asn} {a : Option Addr} {n cap : Nat} {rs : List Rg} [SlIn rgE L a rs] (hn : n = rs.length) :
    CallS Try.prog 35 [.agg #[.slice a n cap]].toArray L (fun w M => ∃ pa pc qa qc hs', w = .tuple #[.agg #[.slice pa (newS rs).1.1.length pc, .slice qa (newS rs).1.2.length qc], .int .i64 (newS rs).2] ∧ M = sl rgE pa pc (newS rs).1.1 :: sl hE qa qc hs' :: rows intE hs' (newS rs).1.2 :: L) := by
  subst hn
  refine CallS.ent ?_
  refine CallS.enter Try.func35 rfl rfl rfl rfl rfl ?_
  refine J.seq rfl ?_
  refine J.region rfl ?_
  refine JO.eff rfl rfl rfl (Eff.box (cs := [_]) rfl rfl) ?_
  rintro _ _ ⟨b1, rfl, rfl⟩
  refine JO.eff rfl rfl rfl (Eff.alloc (cs := [_, _]) rfl) ?_
  rintro _ _ ⟨b2, rfl, rfl⟩
  refine JO.pur rfl rfl rfl (Pur.assign rfl) ?_
  refine JO.nil ?_
  refine J.seq rfl ?_
  refine J.seq rfl ?_
  refine J.region rfl ?_
  refine JO.pur rfl rfl rfl (Pur.loadA rfl rfl rfl CellsIn.blk) ?_
  refine JO.effR rfl rfl rfl (Eff.call rfl (r_Valid (rs := rs) rfl)) ?_
  refine JO.pur rfl rfl rfl (Pur.not rfl) ?_
  refine JO.nil ?_
  refine J.splitB 6 rfl (fun h6 => ?_) (fun h6 => ?_)
  · try simp only [decide_eq_true_eq, decide_eq_false_iff_not, Bool.not_eq_true', Bool.not_eq_false', Bool.and_eq_true, Bool.or_eq_true, Bool.and_eq_false_iff, Bool.or_eq_false_iff, Option.isNone_some, Option.isSome_some, Option.isNone_none, Option.isSome_none, Int.not_lt, Int.not_le, beq_iff_eq, beq_eq_false_iff_ne, bne_iff_ne, ne_eq, Bool.not_not, Decidable.not_not] at h6
    have hbad : ¬ okD rs := h6
    refine J.condT rfl rfl ?_
    refine J.seq rfl ?_
    refine J.region rfl ?_
    refine JO.pur rfl rfl rfl (Pur.build (cs := [_, _]) rfl rfl) ?_
    refine JO.effN rfl rfl (Eff.storeBA (cs' := [_, _]) rfl rfl (by rfl) (by rfl) (by rfl)) ?_
    rintro _ _ ⟨rfl, rfl⟩
    refine JO.pur rfl rfl rfl (Pur.assign rfl) ?_
    refine JO.nil ?_
    refine J.retC rfl (.cell rfl (ld_agg rfl CellsIn.blk) (.tmp rfl .nil)) ?_
    have hv : newS rs = (([], []), 50) := by unfold newS; rw [if_pos hbad]
    refine ⟨_, _, ⟨none, 0, none, 0, [], rfl, rfl⟩, by rw [hv]; rfl, fun h s => ?_⟩
    rw [hv]; exact sl_nil_new (sl_nil_new (rows_nil (SubC.out h s)))
  · try simp only [decide_eq_true_eq, decide_eq_false_iff_not, Bool.not_eq_true', Bool.not_eq_false', Bool.and_eq_true, Bool.or_eq_true, Bool.and_eq_false_iff, Bool.or_eq_false_iff, Option.isNone_some, Option.isSome_some, Option.isNone_none, Option.isSome_none, Int.not_lt, Int.not_le, beq_iff_eq, beq_eq_false_iff_ne, bne_iff_ne, ne_eq, Bool.not_not, Decidable.not_not] at h6
    have hgd : okD rs := h6
    have hv : newS rs = ((rs, []), 0) := by unfold newS; rw [if_neg (not_not_intro hgd)]
    refine J.condF rfl rfl ?_
    refine J.skip rfl ?_
    refine J.seq rfl ?_
    refine J.region rfl ?_
    refine JO.pur rfl rfl rfl (Pur.loadA rfl rfl rfl CellsIn.blk) ?_
    refine JO.eff rfl rfl rfl (Eff.call rfl (@made_ok _ _ none _ _ 0 0 rs [] inferInstance SlIn.nil rfl rfl hgd (by simp) (by simp))) ?_
    rintro _ _ ⟨pa, pc, qa, qc, hs0, rfl, rfl⟩
    rw [made_nil]
    refine JO.effN rfl rfl (Eff.storeBA (cs' := [_, _]) rfl rfl (by rfl) (by rfl) (by rfl)) ?_
    rintro _ _ ⟨rfl, rfl⟩
    refine JO.pur rfl rfl rfl (Pur.assign rfl) ?_
    refine JO.nil ?_
    refine J.retC rfl (.cell rfl (ld_agg rfl CellsIn.blk) (.tmp rfl .nil)) ?_
    refine ⟨_, _, ⟨pa, pc, qa, qc, hs0, rfl, rfl⟩, by rw [hv]; rfl, fun h s => ?_⟩
    rw [hv]
    exact SubC.out h s

theorem s_Dense {L : List Asn} {a : Option Addr} {n cap : Nat} {rs : List Rg} [SlIn rgE L a rs] (hn : n = rs.length) :
    CallS Try.prog 36 [.agg #[.slice a n cap]].toArray L (fun w M => ∃ pa pc qa qc hs', w = .tuple #[.agg #[.slice pa (denS rs).1.1.length pc, .slice qa (denS rs).1.2.length qc], .int .i64 (denS rs).2] ∧ M = sl rgE pa pc (denS rs).1.1 :: sl hE qa qc hs' :: rows intE hs' (denS rs).1.2 :: L) := by
  subst hn
  refine CallS.ent ?_
  refine CallS.enter Try.func36 rfl rfl rfl rfl rfl ?_
  refine J.seq rfl ?_
  refine J.region rfl ?_
  refine JO.eff rfl rfl rfl (Eff.box (cs := [_]) rfl rfl) ?_
  rintro _ _ ⟨b1, rfl, rfl⟩
  refine JO.eff rfl rfl rfl (Eff.alloc (cs := [_, _]) rfl) ?_
  rintro _ _ ⟨b2, rfl, rfl⟩
  refine JO.pur rfl rfl rfl (Pur.assign rfl) ?_
  refine JO.nil ?_
  refine J.seq rfl ?_
  refine J.region rfl ?_
  refine JO.pur rfl rfl rfl (Pur.loadA rfl rfl rfl CellsIn.blk) ?_
  refine JO.eff rfl rfl rfl (Eff.call rfl (d_Indexes (rs := rs) rfl)) ?_
  rintro _ _ ⟨a8, c8, hs8, rfl, rfl⟩
  refine JO.pur rfl rfl rfl (Pur.move rfl) ?_
  refine JO.pur rfl rfl rfl (Pur.extract rfl rfl) ?_
  refine JO.pur rfl rfl rfl (Pur.extract rfl rfl) ?_
  refine JO.setv (u' := .int .i64 (erD rs)) 10 rfl rfl ?_
  refine JO.pur rfl rfl rfl (Pur.assign rfl) ?_
  refine JO.pur rfl rfl rfl (Pur.assign rfl) ?_
  refine JO.nil ?_
  refine J.seq rfl ?_
  refine J.block rfl ?_
  refine J.seq rfl ?_
  refine J.region rfl ?_
  refine JO.pur rfl rfl rfl (Pur.move rfl) ?_
  refine JO.pur rfl rfl rfl (Pur.neqI rfl rfl) ?_
  refine JO.pur rfl rfl rfl (Pur.assign rfl) ?_
  refine JO.nil ?_
  refine J.splitB 11 rfl (fun h11 => ?_) (fun h11 => ?_)
  · try simp only [decide_eq_true_eq, decide_eq_false_iff_not, Bool.not_eq_true', Bool.not_eq_false', Bool.and_eq_true, Bool.or_eq_true, Bool.and_eq_false_iff, Bool.or_eq_false_iff, Option.isNone_some, Option.isSome_some, Option.isNone_none, Option.isSome_none, Int.not_lt, Int.not_le, beq_iff_eq, beq_eq_false_iff_ne, bne_iff_ne, ne_eq, Bool.not_not, Decidable.not_not] at h11
    have hbad : ¬ okD rs := erD_ne.1 (by simpa using h11)
    refine J.condT rfl rfl ?_
    refine J.seq rfl ?_
    refine J.region rfl ?_
    refine JO.pur rfl rfl rfl (Pur.build (cs := [_, _]) rfl rfl) ?_
    refine JO.effN rfl rfl (Eff.storeBA (cs' := [_, _]) rfl rfl (by rfl) (by rfl) (by rfl)) ?_
    rintro _ _ ⟨rfl, rfl⟩
    refine JO.pur rfl rfl rfl (Pur.assign rfl) ?_
    refine JO.nil ?_
    refine J.retC rfl (.cell rfl (ld_agg rfl CellsIn.blk) (.tmp rfl .nil)) ?_
    have hv : denS rs = (([], []), 50) := by unfold denS; rw [if_pos hbad]
    refine ⟨_, _, ⟨none, 0, none, 0, [], rfl, rfl⟩, by rw [hv]; rfl, fun h s => ?_⟩
    rw [hv]; exact sl_nil_new (sl_nil_new (rows_nil (SubC.out h s)))
  · try simp only [decide_eq_true_eq, decide_eq_false_iff_not, Bool.not_eq_true', Bool.not_eq_false', Bool.and_eq_true, Bool.or_eq_true, Bool.and_eq_false_iff, Bool.or_eq_false_iff, Option.isNone_some, Option.isSome_some, Option.isNone_none, Option.isSome_none, Int.not_lt, Int.not_le, beq_iff_eq, beq_eq_false_iff_ne, bne_iff_ne, ne_eq, Bool.not_not, Decidable.not_not] at h11
    have hgd : okD rs := by
      by_cases g : okD rs
      · exact g
      · exact absurd (erD_ne.2 g) (by simpa using h11)
    have hv0 : ixsV rs = idx rs := by unfold ixsV; rw [if_pos hgd]
    have hil : (ixsV rs).length = cntD rs := by rw [hv0, idx_len]
    refine J.condF rfl rfl ?_
    refine J.seq rfl ?_
    refine J.region rfl ?_
    refine JO.pur rfl rfl rfl (Pur.move rfl) ?_
    refine JO.pur rfl rfl rfl (Pur.len rfl) ?_
    refine JO.pur rfl rfl rfl (Pur.gtr rfl rfl) ?_
    refine JO.pur rfl rfl rfl (Pur.assign rfl) ?_
    refine JO.nil ?_
    refine J.splitB 15 rfl (fun h15 => ?_) (fun h15 => ?_)
    · try simp only [decide_eq_true_eq, decide_eq_false_iff_not, Bool.not_eq_true', Bool.not_eq_false', Bool.and_eq_true, Bool.or_eq_true, Bool.and_eq_false_iff, Bool.or_eq_false_iff, Option.isNone_some, Option.isSome_some, Option.isNone_none, Option.isSome_none, Int.not_lt, Int.not_le, beq_iff_eq, beq_eq_false_iff_ne, bne_iff_ne, ne_eq, Bool.not_not, Decidable.not_not] at h15
      have hbig : 400 < cntD rs := by omega
      refine J.condT rfl rfl ?_
      refine J.seq rfl ?_
      refine J.region rfl ?_
      refine JO.pur rfl rfl rfl (Pur.build (cs := [_, _]) rfl rfl) ?_
      refine JO.effN rfl rfl (Eff.storeBA (cs' := [_, _]) rfl rfl (by rfl) (by rfl) (by rfl)) ?_
      rintro _ _ ⟨rfl, rfl⟩
      refine JO.pur rfl rfl rfl (Pur.assign rfl) ?_
      refine JO.nil ?_
      refine J.retC rfl (.cell rfl (ld_agg rfl CellsIn.blk) (.tmp rfl .nil)) ?_
      have hv : denS rs = (([], []), 4) := by unfold denS; rw [if_neg (not_not_intro hgd), if_pos hbig]
      refine ⟨_, _, ⟨none, 0, none, 0, [], rfl, rfl⟩, by rw [hv]; rfl, fun h s => ?_⟩
      rw [hv]; exact sl_nil_new (sl_nil_new (rows_nil (SubC.out h s)))
    · try simp only [decide_eq_true_eq, decide_eq_false_iff_not, Bool.not_eq_true', Bool.not_eq_false', Bool.and_eq_true, Bool.or_eq_true, Bool.and_eq_false_iff, Bool.or_eq_false_iff, Option.isNone_some, Option.isSome_some, Option.isNone_none, Option.isSome_none, Int.not_lt, Int.not_le, beq_iff_eq, beq_eq_false_iff_ne, bne_iff_ne, ne_eq, Bool.not_not, Decidable.not_not] at h15
      have hsm : ¬ 400 < cntD rs := by omega
      refine J.condF rfl rfl ?_
      refine J.skip rfl ?_
      refine J.inBlock ?_
      refine J.seq rfl ?_
      refine J.region rfl ?_
      refine JO.pur rfl rfl rfl (Pur.loadA rfl rfl rfl CellsIn.blk) ?_
      refine JO.eff rfl rfl rfl (Eff.call rfl (cloneD (rs := rs) rfl hgd)) ?_
      rintro _ _ ⟨a21, c21, rfl, rfl⟩
      refine JO.pur rfl rfl rfl (Pur.move rfl) ?_
      refine JO.pur rfl rfl rfl (Pur.build (cs := [_, _]) rfl rfl) ?_
      refine JO.effN rfl rfl (Eff.storeBA (cs' := [_, _]) rfl rfl (by rfl) (by rfl) (by rfl)) ?_
      rintro _ _ ⟨rfl, rfl⟩
      refine JO.pur rfl rfl rfl (Pur.assign rfl) ?_
      refine JO.nil ?_
      refine J.retC rfl (.cell rfl (ld_agg rfl CellsIn.blk) (.tmp rfl .nil)) ?_
      have hv : denS rs = ((rs, idx rs), 0) := by unfold denS; rw [if_neg (not_not_intro hgd), if_neg hsm]
      refine ⟨_, _, ⟨a21, c21, a8, c8, hs8, rfl, rfl⟩, by rw [hv, hv0]; rfl, fun h s => ?_⟩
      rw [hv0] at s
      rw [hv]
      exact SubC.out h s

theorem rs_Dense {L : List Asn} {a : Option Addr} {n cap : Nat} {rs : List Rg} [SlIn rgE L a rs] (hn : n = rs.length) :
    CallS Try.prog 37 [.agg #[.slice a n cap]].toArray L (fun w M => ∃ pa pc qa qc hs', w = .tuple #[.agg #[.slice pa (denS rs).1.1.length pc, .slice qa (denS rs).1.2.length qc], .int .i64 (denS rs).2] ∧ M = sl rgE pa pc (denS rs).1.1 :: sl hE qa qc hs' :: rows intE hs' (denS rs).1.2 :: L) := by
  subst hn
  refine CallS.ent ?_
  refine CallS.enter Try.func37 rfl rfl rfl rfl rfl ?_
  refine J.seq rfl ?_
  refine J.region rfl ?_
  refine JO.eff rfl rfl rfl (Eff.box (cs := [_]) rfl rfl) ?_
  rintro _ _ ⟨b1, rfl, rfl⟩
  refine JO.eff rfl rfl rfl (Eff.alloc (cs := [_, _]) rfl) ?_
  rintro _ _ ⟨b2, rfl, rfl⟩
  refine JO.pur rfl rfl rfl (Pur.assign rfl) ?_
  refine JO.nil ?_
  refine J.seq rfl ?_
  refine J.seq rfl ?_
  refine J.region rfl ?_
  refine JO.pur rfl rfl rfl (Pur.loadA rfl rfl rfl CellsIn.blk) ?_
  refine JO.effR rfl rfl rfl (Eff.call rfl (r_Valid (rs := rs) rfl)) ?_
  refine JO.pur rfl rfl rfl (Pur.not rfl) ?_
  refine JO.nil ?_
  refine J.splitB 10 rfl (fun h10 => ?_) (fun h10 => ?_)
  · try simp only [decide_eq_true_eq, decide_eq_false_iff_not, Bool.not_eq_true', Bool.not_eq_false', Bool.and_eq_true, Bool.or_eq_true, Bool.and_eq_false_iff, Bool.or_eq_false_iff, Option.isNone_some, Option.isSome_some, Option.isNone_none, Option.isSome_none, Int.not_lt, Int.not_le, beq_iff_eq, beq_eq_false_iff_ne, bne_iff_ne, ne_eq, Bool.not_not, Decidable.not_not] at h10
    have hbad : ¬ okD rs := h10
    refine J.condT rfl rfl ?_
    refine J.seq rfl ?_
    refine J.region rfl ?_
    refine JO.pur rfl rfl rfl (Pur.build (cs := [_, _]) rfl rfl) ?_
    refine JO.effN rfl rfl (Eff.storeBA (cs' := [_, _]) rfl rfl (by rfl) (by rfl) (by rfl)) ?_
    rintro _ _ ⟨rfl, rfl⟩
    refine JO.pur rfl rfl rfl (Pur.assign rfl) ?_
    refine JO.nil ?_
    refine J.retC rfl (.cell rfl (ld_agg rfl CellsIn.blk) (.tmp rfl .nil)) ?_
    have hv : denS rs = (([], []), 50) := by unfold denS; rw [if_pos hbad]
    refine ⟨_, _, ⟨none, 0, none, 0, [], rfl, rfl⟩, by rw [hv]; rfl, fun h s => ?_⟩
    rw [hv]; exact sl_nil_new (sl_nil_new (rows_nil (SubC.out h s)))
  · try simp only [decide_eq_true_eq, decide_eq_false_iff_not, Bool.not_eq_true', Bool.not_eq_false', Bool.and_eq_true, Bool.or_eq_true, Bool.and_eq_false_iff, Bool.or_eq_false_iff, Option.isNone_some, Option.isSome_some, Option.isNone_none, Option.isSome_none, Int.not_lt, Int.not_le, beq_iff_eq, beq_eq_false_iff_ne, bne_iff_ne, ne_eq, Bool.not_not, Decidable.not_not] at h10
    have hgd : okD rs := h10
    have hct : ctV rs = ((cntD rs : Nat) : Int) := by unfold ctV; rw [if_pos hgd]
    refine J.condF rfl rfl ?_
    refine J.skip rfl ?_
    refine J.seq rfl ?_
    refine J.region rfl ?_
    refine JO.pur rfl rfl rfl (Pur.loadA rfl rfl rfl CellsIn.blk) ?_
    refine JO.effR rfl rfl rfl (Eff.call rfl (r_Count (rs := rs) rfl)) ?_
    refine JO.pur rfl rfl rfl (Pur.move rfl) ?_
    refine JO.pur rfl rfl rfl (Pur.extract rfl rfl) ?_
    refine JO.setv (u' := .int .i64 ((cntD rs : Nat) : Int)) 15 rfl (congrArg (Value.int .i64) hct) ?_
    refine JO.pur rfl rfl rfl (Pur.extract rfl rfl) ?_
    refine JO.pur rfl rfl rfl (Pur.assign rfl) ?_
    refine JO.pur rfl rfl rfl (Pur.assign rfl) ?_
    refine JO.nil ?_
    refine J.seq rfl ?_
    refine J.seq rfl ?_
    refine J.region rfl ?_
    refine JO.pur rfl rfl rfl (Pur.move rfl) ?_
    refine JO.pur rfl rfl rfl (Pur.gtr rfl rfl) ?_
    refine JO.nil ?_
    refine J.splitB 18 rfl (fun h18 => ?_) (fun h18 => ?_)
    · try simp only [decide_eq_true_eq, decide_eq_false_iff_not, Bool.not_eq_true', Bool.not_eq_false', Bool.and_eq_true, Bool.or_eq_true, Bool.and_eq_false_iff, Bool.or_eq_false_iff, Option.isNone_some, Option.isSome_some, Option.isNone_none, Option.isSome_none, Int.not_lt, Int.not_le, beq_iff_eq, beq_eq_false_iff_ne, bne_iff_ne, ne_eq, Bool.not_not, Decidable.not_not] at h18
      have hbig : 400 < cntD rs := by omega
      refine J.condT rfl rfl ?_
      refine J.seq rfl ?_
      refine J.region rfl ?_
      refine JO.pur rfl rfl rfl (Pur.build (cs := [_, _]) rfl rfl) ?_
      refine JO.effN rfl rfl (Eff.storeBA (cs' := [_, _]) rfl rfl (by rfl) (by rfl) (by rfl)) ?_
      rintro _ _ ⟨rfl, rfl⟩
      refine JO.pur rfl rfl rfl (Pur.assign rfl) ?_
      refine JO.nil ?_
      refine J.retC rfl (.cell rfl (ld_agg rfl CellsIn.blk) (.tmp rfl .nil)) ?_
      have hv : denS rs = (([], []), 4) := by unfold denS; rw [if_neg (not_not_intro hgd), if_pos hbig]
      refine ⟨_, _, ⟨none, 0, none, 0, [], rfl, rfl⟩, by rw [hv]; rfl, fun h s => ?_⟩
      rw [hv]; exact sl_nil_new (sl_nil_new (rows_nil (SubC.out h s)))
    · try simp only [decide_eq_true_eq, decide_eq_false_iff_not, Bool.not_eq_true', Bool.not_eq_false', Bool.and_eq_true, Bool.or_eq_true, Bool.and_eq_false_iff, Bool.or_eq_false_iff, Option.isNone_some, Option.isSome_some, Option.isNone_none, Option.isSome_none, Int.not_lt, Int.not_le, beq_iff_eq, beq_eq_false_iff_ne, bne_iff_ne, ne_eq, Bool.not_not, Decidable.not_not] at h18
      have hsm : ¬ 400 < cntD rs := by omega
      refine J.condF rfl rfl ?_
      refine J.skip rfl ?_
      refine J.seq rfl ?_
      refine J.region rfl ?_
      refine JO.pur rfl rfl rfl (Pur.assign rfl) ?_
      refine JO.nil ?_
      refine J.seq rfl ?_
      refine J.seq rfl ?_
      refine J.region rfl ?_
      refine JO.pur rfl rfl rfl (Pur.assign rfl) ?_
      refine JO.nil ?_
      refine J.block rfl ?_
      refine J.loopF (ι := Nat × Option Addr × Nat) (fun q => q.1 ≤ cntD rs) (fun q => [(6, .slice q.2.1 q.1 q.2.2), (7, .int .i64 (q.1 : Int))]) [(1, _), (2, _), (4, _)] (fun q => sl intE q.2.1 q.2.2 ((List.range q.1).map fun (i : Nat) => (i : Int)) :: blk b1 (.cells #[.slice a rs.length cap] 24) :: blk b2 (.cells #[.slice none 0 0, .slice none 0 0] 27) :: L) (fun q => cntD rs - q.1) (0, none, 0) rfl (.cons rfl rfl (.cons rfl rfl (.cons rfl rfl .nil))) (.cons rfl rfl (.cons rfl rfl .nil)) (fun h s => by have s2 := sl_nil_new (E := intE) s; exact SubC.out (L := sl intE none 0 [] :: _) (M := sl intE none 0 [] :: _) h s2) (Nat.zero_le _) ?_
      rintro ⟨k, a0, c0⟩ hk ih0
      try dsimp only
      dsimp only at hk
      refine J.seq rfl ?_
      refine J.seq rfl ?_
      refine J.region rfl ?_
      refine JO.pur rfl rfl rfl (Pur.move rfl) ?_
      refine JO.pur rfl rfl rfl (Pur.move rfl) ?_
      refine JO.pur rfl rfl rfl (Pur.lss rfl rfl) ?_
      refine JO.nil ?_
      refine J.splitB 22 rfl (fun h22 => ?_) (fun h22 => ?_)
      · try simp only [decide_eq_true_eq, decide_eq_false_iff_not, Bool.not_eq_true', Bool.not_eq_false', Bool.and_eq_true, Bool.or_eq_true, Bool.and_eq_false_iff, Bool.or_eq_false_iff, Option.isNone_some, Option.isSome_some, Option.isNone_none, Option.isSome_none, Int.not_lt, Int.not_le, beq_iff_eq, beq_eq_false_iff_ne, bne_iff_ne, ne_eq, Bool.not_not, Decidable.not_not] at h22
        have hkl : k < cntD rs := by omega
        refine J.condT rfl rfl ?_
        refine J.skip rfl ?_
        refine J.seq rfl ?_
        refine J.block rfl ?_
        refine J.region rfl ?_
        refine JO.pur rfl rfl rfl (Pur.move rfl) ?_
        refine JO.pur rfl rfl rfl (Pur.move rfl) ?_
        refine JO.eff rfl rfl rfl (Eff.buildSlice intE [(k : Int)] rfl rfl rfl rfl rfl rfl rfl) ?_
        rintro _ _ ⟨b27, rfl, -, rfl⟩
        refine JO.eff rfl rfl rfl (Eff.append rfl rfl rfl rfl (by first | rfl | omega | (simp; done) | (simp; omega)) (by first | rfl | omega | (simp; done) | (simp; omega)) (by decide) (by simp; omega) (by simp; omega) (fun h => by cases h)) ?_
        rintro _ _ ⟨a28, c28, rfl, rfl⟩
        refine JO.pur rfl rfl rfl (Pur.assign rfl) ?_
        refine JO.nil ?_
        refine J.inBlock ?_
        refine J.region rfl ?_
        refine JO.pur rfl rfl rfl (Pur.move rfl) ?_
        refine JO.pur rfl rfl rfl (Pur.add rfl rfl (wr64 (by omega))) ?_
        refine JO.pur rfl rfl rfl (Pur.assign rfl) ?_
        refine JO.nil ?_
        exact J.weaken (.cons rfl (by show Value.slice a28 _ c28 = Value.slice a28 (k + 1) c28; simp) (.cons rfl (congrArg (Value.int .i64) (by first | rfl | (dsimp only; omega))) (.cons rfl rfl (.cons rfl rfl (.cons rfl rfl .nil))))) (fun h s => by dsimp only; rw [List.range_succ, List.map_append, List.map_cons, List.map_nil]; exact SubC.out h s) (ih0 (k + 1, a28, c28) (by dsimp only; omega) (by dsimp only; omega))
      · try simp only [decide_eq_true_eq, decide_eq_false_iff_not, Bool.not_eq_true', Bool.not_eq_false', Bool.and_eq_true, Bool.or_eq_true, Bool.and_eq_false_iff, Bool.or_eq_false_iff, Option.isNone_some, Option.isSome_some, Option.isNone_none, Option.isSome_none, Int.not_lt, Int.not_le, beq_iff_eq, beq_eq_false_iff_ne, bne_iff_ne, ne_eq, Bool.not_not, Decidable.not_not] at h22
        have hke : k = cntD rs := by omega
        have hkl : k ≤ 400 := by omega
        refine J.condF rfl rfl ?_
        refine J.exit rfl rfl ?_
        refine J.seq rfl ?_
        refine J.region rfl ?_
        refine JO.pur rfl rfl rfl (Pur.loadA rfl rfl rfl CellsIn.blk) ?_
        refine JO.pur rfl rfl rfl (Pur.move rfl) ?_
        refine JO.eff rfl rfl rfl (Eff.call rfl (made_ok (rs := rs) (ts := ((List.range k).map fun (i : Nat) => (i : Int))) rfl (by simp) hgd (by simp; omega) (fun t ht => by obtain ⟨i, hi, rfl⟩ := List.mem_map.1 ht; have := List.mem_range.1 hi; omega))) ?_
        rintro _ _ ⟨pa, pc, qa, qc, hs0, rfl, rfl⟩
        rw [hke, made_all]
        refine JO.effN rfl rfl (Eff.storeBA (cs' := [_, _]) rfl rfl (by rfl) (by rfl) (by rfl)) ?_
        rintro _ _ ⟨rfl, rfl⟩
        refine JO.pur rfl rfl rfl (Pur.assign rfl) ?_
        refine JO.nil ?_
        refine J.retC rfl (.cell rfl (ld_agg rfl CellsIn.blk) (.tmp rfl .nil)) ?_
        have hv : denS rs = ((rs, idx rs), 0) := by unfold denS; rw [if_neg (not_not_intro hgd), if_neg hsm]
        refine ⟨_, _, ⟨pa, pc, qa, qc, hs0, rfl, rfl⟩, by rw [hv]; rfl, fun h s => ?_⟩
        rw [hv]
        exact SubC.out h s

theorem part_cl {L : List Asn} {b ya : Option Addr} {m cq yn yc bx : Nat} {ss : List Rg} {y : List Int} [hr : SlIn rgE L b ss] [hy : SlIn intE L ya y] [hbx : BlkIn L bx (.cells #[.slice b m cq] 24)] (hm : m = ss.length) (hyn : yn = y.length) :
    CallS Try.prog 100 [.slice ya yn yc, .pointer (some ⟨bx, 0, none⟩)].toArray L (fun v M => v = .bool (hasV ss y).1 ∧ M = L) := by
  refine CallS.ent ?_
  refine CallS.enter Try.func100 rfl rfl rfl rfl rfl ?_
  refine J.seq rfl ?_
  refine J.region rfl ?_
  refine JO.pur rfl rfl rfl (Pur.assign rfl) ?_
  refine JO.nil ?_
  refine J.seq rfl ?_
  refine J.region rfl ?_
  refine JO.pur rfl rfl rfl (Pur.loadA rfl rfl rfl CellsIn.blk) ?_
  refine JO.pur rfl rfl rfl (Pur.move rfl) ?_
  refine JO.effR rfl rfl rfl (Eff.call rfl (d_Has (rs := ss) (x := y) hm hyn)) ?_
  refine JO.pur rfl rfl rfl (Pur.move rfl) ?_
  refine JO.pur rfl rfl rfl (Pur.extract rfl rfl) ?_
  refine JO.pur rfl rfl rfl (Pur.extract rfl rfl) ?_
  refine JO.pur rfl rfl rfl (Pur.assign rfl) ?_
  refine JO.pur rfl rfl rfl (Pur.assign rfl) ?_
  refine JO.nil ?_
  refine J.seq rfl ?_
  refine J.region rfl ?_
  refine JO.pur rfl rfl rfl (Pur.move rfl) ?_
  refine JO.pur rfl rfl rfl (Pur.assign rfl) ?_
  refine JO.nil ?_
  refine J.ret rfl rfl ?_
  refine ⟨_, _, ⟨rfl, rfl⟩, rfl, SubC.out⟩

theorem s_Part {L : List Asn} {a la b : Option Addr} {n cap ln lc m cq : Nat} {rs ss : List Rg} {hs : List Hdr} {xss : List (List Int)} [SlIn rgE L a rs] [SlIn hE L la hs] [RowsR intE L hs xss] [SlIn rgE L b ss] (hn : n = rs.length) (hl : ln = hs.length) (hm : m = ss.length) :
    CallS Try.prog 32 [.agg #[.slice a n cap, .slice la ln lc], .agg #[.slice b m cq]].toArray L (fun w M => ∃ pa pc qa qc hs', w = .tuple #[.agg #[.slice pa (prtS rs xss ss).1.1.length pc, .slice qa (prtS rs xss ss).1.2.length qc], .int .i64 (prtS rs xss ss).2] ∧ M = sl rgE pa pc (prtS rs xss ss).1.1 :: sl hE qa qc hs' :: rows intE hs' (prtS rs xss ss).1.2 :: L) := by
  subst hn
  subst hl
  subst hm
  refine CallS.fact (fun h s => RowsR.len (E := intE) (hs := hs) (xss := xss) s) fun hnn => ?_
  have hhl : hs.length = xss.length := rows_len hnn
  refine CallS.ent ?_
  refine CallS.enter Try.func32 rfl rfl rfl rfl rfl ?_
  refine J.seq rfl ?_
  refine J.region rfl ?_
  refine JO.eff rfl rfl rfl (Eff.box (cs := [_, _]) rfl rfl) ?_
  rintro _ _ ⟨b2, rfl, rfl⟩
  refine JO.eff rfl rfl rfl (Eff.box (cs := [_]) rfl rfl) ?_
  rintro _ _ ⟨b3, rfl, rfl⟩
  refine JO.eff rfl rfl rfl (Eff.alloc (cs := [_, _]) rfl) ?_
  rintro _ _ ⟨b4, rfl, rfl⟩
  refine JO.pur rfl rfl rfl (Pur.assign rfl) ?_
  refine JO.nil ?_
  refine J.seq rfl ?_
  refine J.block rfl ?_
  refine J.seq rfl ?_
  refine J.region rfl ?_
  refine JO.pur rfl rfl rfl (Pur.loadA rfl rfl rfl CellsIn.blk) ?_
  refine JO.effR rfl rfl rfl (Eff.call rfl (s_Valid (rs := rs) (hs := hs) (xss := xss) rfl rfl)) ?_
  refine JO.pur rfl rfl rfl (Pur.not rfl) ?_
  refine JO.pur rfl rfl rfl (Pur.move rfl) ?_
  refine JO.splitB 10 rfl (fun h10 => ?_) (fun h10 => ?_)
  · try simp only [decide_eq_true_eq, decide_eq_false_iff_not, Bool.not_eq_true', Bool.not_eq_false', Bool.and_eq_true, Bool.or_eq_true, Bool.and_eq_false_iff, Bool.or_eq_false_iff, Option.isNone_some, Option.isSome_some, Option.isNone_none, Option.isSome_none, Int.not_lt, Int.not_le, beq_iff_eq, beq_eq_false_iff_ne, bne_iff_ne, ne_eq, Bool.not_not, Decidable.not_not] at h10
    have hns : ¬ okS rs xss := h10
    refine JO.no rfl rfl rfl ?_
    refine JO.no rfl rfl rfl ?_
    refine JO.no rfl rfl rfl ?_
    refine JO.pur rfl rfl rfl (Pur.pickT rfl rfl) ?_
    refine JO.pur rfl rfl rfl (Pur.assign rfl) ?_
    refine JO.nil ?_
    refine J.condT rfl rfl ?_
    refine J.seq rfl ?_
    refine J.region rfl ?_
    refine JO.pur rfl rfl rfl (Pur.build (cs := [_, _]) rfl rfl) ?_
    refine JO.effN rfl rfl (Eff.storeBA (cs' := [_, _]) rfl rfl (by rfl) (by rfl) (by rfl)) ?_
    rintro _ _ ⟨rfl, rfl⟩
    refine JO.pur rfl rfl rfl (Pur.assign rfl) ?_
    refine JO.nil ?_
    refine J.retC rfl (.cell rfl (ld_agg rfl CellsIn.blk) (.tmp rfl .nil)) ?_
    have hv : prtS rs xss ss = (([], []), 50) := by unfold prtS; rw [if_pos (fun g => hns g.1)]
    refine ⟨_, _, ⟨none, 0, none, 0, [], rfl, rfl⟩, by rw [hv]; rfl, fun h s => ?_⟩
    rw [hv]; exact sl_nil_new (sl_nil_new (rows_nil (SubC.out h s)))
  · try simp only [decide_eq_true_eq, decide_eq_false_iff_not, Bool.not_eq_true', Bool.not_eq_false', Bool.and_eq_true, Bool.or_eq_true, Bool.and_eq_false_iff, Bool.or_eq_false_iff, Option.isNone_some, Option.isSome_some, Option.isNone_none, Option.isSome_none, Int.not_lt, Int.not_le, beq_iff_eq, beq_eq_false_iff_ne, bne_iff_ne, ne_eq, Bool.not_not, Decidable.not_not] at h10
    have hs0 : okS rs xss := h10
    have hrow : ∀ y ∈ xss, y.length ≤ 1000 := fun y hy => by have := okS_len hs0 hy; have := hs0.1.2.1; omega
    refine JO.pur rfl rfl rfl (Pur.loadA rfl rfl rfl CellsIn.blk) ?_
    refine JO.effR rfl rfl rfl (Eff.call rfl (d_Valid (rs := ss) rfl)) ?_
    refine JO.pur rfl rfl rfl (Pur.not rfl) ?_
    refine JO.pur rfl rfl rfl (Pur.pickF rfl rfl) ?_
    refine JO.pur rfl rfl rfl (Pur.assign rfl) ?_
    refine JO.nil ?_
    refine J.splitB 6 rfl (fun h6 => ?_) (fun h6 => ?_)
    · try simp only [decide_eq_true_eq, decide_eq_false_iff_not, Bool.not_eq_true', Bool.not_eq_false', Bool.and_eq_true, Bool.or_eq_true, Bool.and_eq_false_iff, Bool.or_eq_false_iff, Option.isNone_some, Option.isSome_some, Option.isNone_none, Option.isSome_none, Int.not_lt, Int.not_le, beq_iff_eq, beq_eq_false_iff_ne, bne_iff_ne, ne_eq, Bool.not_not, Decidable.not_not] at h6
      have hnd : ¬ okD ss := h6
      refine J.condT rfl rfl ?_
      refine J.seq rfl ?_
      refine J.region rfl ?_
      refine JO.pur rfl rfl rfl (Pur.build (cs := [_, _]) rfl rfl) ?_
      refine JO.effN rfl rfl (Eff.storeBA (cs' := [_, _]) rfl rfl (by rfl) (by rfl) (by rfl)) ?_
      rintro _ _ ⟨rfl, rfl⟩
      refine JO.pur rfl rfl rfl (Pur.assign rfl) ?_
      refine JO.nil ?_
      refine J.retC rfl (.cell rfl (ld_agg rfl CellsIn.blk) (.tmp rfl .nil)) ?_
      have hv : prtS rs xss ss = (([], []), 50) := by unfold prtS; rw [if_pos (fun g => hnd g.2)]
      refine ⟨_, _, ⟨none, 0, none, 0, [], rfl, rfl⟩, by rw [hv]; rfl, fun h s => ?_⟩
      rw [hv]; exact sl_nil_new (sl_nil_new (rows_nil (SubC.out h s)))
    · try simp only [decide_eq_true_eq, decide_eq_false_iff_not, Bool.not_eq_true', Bool.not_eq_false', Bool.and_eq_true, Bool.or_eq_true, Bool.and_eq_false_iff, Bool.or_eq_false_iff, Option.isNone_some, Option.isSome_some, Option.isNone_none, Option.isSome_none, Int.not_lt, Int.not_le, beq_iff_eq, beq_eq_false_iff_ne, bne_iff_ne, ne_eq, Bool.not_not, Decidable.not_not] at h6
      have hd0 : okD ss := h6
      refine J.condF rfl rfl ?_
      refine J.seq rfl ?_
      refine J.region rfl ?_
      refine JO.pur rfl rfl rfl (Pur.fieldAddr rfl) ?_
      refine JO.pur rfl rfl rfl (Pur.load rfl (CellIn.blk rfl)) ?_
      refine JO.pur rfl rfl rfl (Pur.len rfl) ?_
      refine JO.pur rfl rfl rfl (Pur.fieldAddr rfl) ?_
      refine JO.pur rfl rfl rfl (Pur.fieldAddr rfl) ?_
      refine JO.pur rfl rfl rfl (Pur.load rfl (CellIn.blk rfl)) ?_
      refine JO.pur rfl rfl rfl (Pur.len rfl) ?_
      refine JO.pur rfl rfl rfl (Pur.neqI rfl rfl) ?_
      refine JO.pur rfl rfl rfl (Pur.assign rfl) ?_
      refine JO.nil ?_
      refine J.splitB 16 rfl (fun h16 => ?_) (fun h16 => ?_)
      · try simp only [decide_eq_true_eq, decide_eq_false_iff_not, Bool.not_eq_true', Bool.not_eq_false', Bool.and_eq_true, Bool.or_eq_true, Bool.and_eq_false_iff, Bool.or_eq_false_iff, Option.isNone_some, Option.isSome_some, Option.isNone_none, Option.isSome_none, Int.not_lt, Int.not_le, beq_iff_eq, beq_eq_false_iff_ne, bne_iff_ne, ne_eq, Bool.not_not, Decidable.not_not] at h16
        have hle : ss.length ≠ rs.length := by omega
        refine J.condT rfl rfl ?_
        refine J.seq rfl ?_
        refine J.region rfl ?_
        refine JO.pur rfl rfl rfl (Pur.build (cs := [_, _]) rfl rfl) ?_
        refine JO.effN rfl rfl (Eff.storeBA (cs' := [_, _]) rfl rfl (by rfl) (by rfl) (by rfl)) ?_
        rintro _ _ ⟨rfl, rfl⟩
        refine JO.pur rfl rfl rfl (Pur.assign rfl) ?_
        refine JO.nil ?_
        refine J.retC rfl (.cell rfl (ld_agg rfl CellsIn.blk) (.tmp rfl .nil)) ?_
        have hv : prtS rs xss ss = (([], []), 2) := by unfold prtS; rw [if_neg (not_not_intro ⟨hs0, hd0⟩), if_pos hle]
        refine ⟨_, _, ⟨none, 0, none, 0, [], rfl, rfl⟩, by rw [hv]; rfl, fun h s => ?_⟩
        rw [hv]; exact sl_nil_new (sl_nil_new (rows_nil (SubC.out h s)))
      · try simp only [decide_eq_true_eq, decide_eq_false_iff_not, Bool.not_eq_true', Bool.not_eq_false', Bool.and_eq_true, Bool.or_eq_true, Bool.and_eq_false_iff, Bool.or_eq_false_iff, Option.isNone_some, Option.isSome_some, Option.isNone_none, Option.isSome_none, Int.not_lt, Int.not_le, beq_iff_eq, beq_eq_false_iff_ne, bne_iff_ne, ne_eq, Bool.not_not, Decidable.not_not] at h16
        have hle : ss.length = rs.length := by omega
        refine J.condF rfl rfl ?_
        refine J.skip rfl ?_
        refine J.inBlock ?_
        refine J.seq rfl ?_
        refine J.region rfl ?_
        refine JO.pur rfl rfl rfl (Pur.loadA rfl rfl rfl CellsIn.blk) ?_
        refine JO.pur rfl rfl rfl (Pur.makeFunc rfl rfl) ?_
        refine JO.eff rfl rfl rfl (Eff.call rfl (some_ok (g := 100) (caps := [.pointer (some ⟨b3, 0, none⟩)]) (p := fun x => (hasV ss x).1) (rs := rs) (hs := hs) (xss := xss) rfl rfl hs0.1 hs0.2.1 hrow (fun {M ya yc y} hym hyi hmm => part_cl (ss := ss) (y := y) (m := ss.length) (cq := cq) (b := b) (hr := SlIn.lift inferInstance hmm) (hy := hyi) (hbx := BlkIn.lift inferInstance hmm) rfl rfl))) ?_
        rintro _ _ ⟨pa, pc, qa, qc, hs1, rfl, rfl⟩
        refine JO.effN rfl rfl (Eff.storeBA (cs' := [_, _]) rfl rfl (by rfl) (by rfl) (by rfl)) ?_
        rintro _ _ ⟨rfl, rfl⟩
        refine JO.pur rfl rfl rfl (Pur.assign rfl) ?_
        refine JO.nil ?_
        refine J.retC rfl (.cell rfl (ld_agg rfl CellsIn.blk) (.tmp rfl .nil)) ?_
        have hv : prtS rs xss ss = ((rs, xss.filter fun x => (hasV ss x).1), 0) := by unfold prtS; rw [if_neg (not_not_intro ⟨hs0, hd0⟩), if_neg (not_not_intro hle)]
        refine ⟨_, _, ⟨pa, pc, qa, qc, hs1, rfl, rfl⟩, by rw [hv]; rfl, fun h s => ?_⟩
        rw [hv]
        exact SubC.out h s

end Go.Proofs.Ytnhippfllgnngaa
