/-
  A part of the proof of the claim that this folder bears.
-/
import Derived.Test.YtnhippfllgnngaaPAL
/- The text SD3. -/
set_option linter.unusedVariables false
set_option linter.unusedSimpArgs false
set_option maxRecDepth 10000
namespace Go.Proofs.Ytnhippfllgnngaa
open Go Go.KK Dm

def srcV (c : Bool) (rs : List Rg) : List (List Int) := idx (tuL c rs)
/-- Of which the first ones have been turned. -/
def midV (c : Bool) (rs : List Rg) (k : Nat) : List (List Int) := ((srcV c rs).take k).map (ixL c) ++ (srcV c rs).drop k
theorem mid_zero (c : Bool) (rs : List Rg) : midV c rs 0 = srcV c rs := by simp [midV]
theorem mid_len (c : Bool) (rs : List Rg) (k : Nat) : (midV c rs k).length = (srcV c rs).length := by simp [midV]; omega
theorem mid_all (c : Bool) (rs : List Rg) : midV c rs (srcV c rs).length = ordL c rs := by
  unfold midV ordL; rw [List.take_length, List.drop_length, List.append_nil]; rfl
theorem mid_get {c : Bool} {rs : List Rg} {k : Nat} {x : List Int} (h : (srcV c rs)[k]? = some x) : (midV c rs k)[k]? = some x := by
  have hk := (List.getElem?_eq_some_iff.1 h).1
  unfold midV
  rw [List.getElem?_append_right (by simp; omega), List.getElem?_drop]
  simp only [List.length_map, List.length_take]
  rw [show k + (k - min k (srcV c rs).length) = k by omega]; exact h
theorem mid_step {c : Bool} {rs : List Rg} {k : Nat} {x : List Int} (h : (srcV c rs)[k]? = some x) : (midV c rs k).set k (ixL c x) = midV c rs (k + 1) := by
  have hk := (List.getElem?_eq_some_iff.1 h).1
  unfold midV
  have hl : (((srcV c rs).take k).map (ixL c)).length = k := by simp; omega
  rw [List.set_append_right _ _ (by omega), hl, Nat.sub_self, take_get h, List.map_append, List.append_assoc]
  congr 1
  rw [List.drop_eq_getElem_cons hk, List.set_cons_zero]; rfl
theorem src_len (c : Bool) (rs : List Rg) : (srcV c rs).length = cntD (tuL c rs) := idx_len _
theorem tuL_cnt (c : Bool) (rs : List Rg) : cntD (tuL c rs) = cntD rs := by
  unfold tuL; cases c
  · rfl
  · exact cntD_rev rs
theorem src_row {c : Bool} {rs : List Rg} {k : Nat} {x : List Int} (h : (srcV c rs)[k]? = some x) : x.length = rs.length := by
  have := idx_row_len (d := tuL c rs) (n := k) (x := x) (k := (tuL c rs).length) (Nat.le_refl _) (by rw [List.take_length]; exact h)
  rw [this, tuL_len]
theorem ord_row {c : Bool} {rs : List Rg} {x : List Int} (h : x ∈ ordL c rs) : x.length = rs.length := by
  unfold ordL at h
  obtain ⟨y, hy, rfl⟩ := List.mem_map.1 h
  obtain ⟨k, hk, e⟩ := List.getElem_of_mem hy
  rw [ixL_len]
  exact src_row (c := c) (k := k) (by unfold srcV; rw [List.getElem?_eq_getElem hk, e])
theorem ord_len2 (c : Bool) (rs : List Rg) : (ordL c rs).length = cntD rs := by rw [ord_len, tuL_cnt]
theorem isC_t {lay : ByteArray} (h : lay = colS) : isC lay = true := decide_eq_true h
theorem isC_f {lay : ByteArray} (h : ¬ lay = colS) : isC lay = false := decide_eq_false h
theorem lall_row {L : List Asn} {lay : ByteArray} {a : Option Addr} {n cap : Nat} {rs : List Rg} [SlIn rgE L a rs] (hn : n = rs.length) (h : okD rs) (hs : ¬ lay = colS) :
    CallS Try.prog 133 [.string lay, .agg #[.slice a n cap]].toArray L (fun v M => ∃ a' c' hs, v = .slice a' (ordL (isC lay) rs).length c' ∧ M = sl hE a' c' hs :: rows intE hs (ordL (isC lay) rs) :: L) := by
  subst hn
  refine CallS.ent ?_
  refine CallS.enter Try.func133 rfl rfl rfl rfl rfl ?_
  refine J.seq rfl ?_
  refine J.region rfl ?_
  refine JO.eff rfl rfl rfl (Eff.box (cs := [_]) rfl rfl) ?_
  rintro _ _ ⟨b3, rfl, rfl⟩
  refine JO.pur rfl rfl rfl (Pur.assign rfl) ?_
  refine JO.nil ?_
  refine J.seq rfl ?_
  refine J.region rfl ?_
  refine JO.pur rfl rfl rfl (Pur.move rfl) ?_
  refine JO.pur rfl rfl rfl (Pur.loadA rfl rfl rfl CellsIn.blk) ?_
  refine JO.effR rfl rfl rfl (Eff.call rfl (turned_row hs)) ?_
  refine JO.eff rfl rfl rfl (Eff.call rfl (d_Indexes (rs := rs) rfl)) ?_
  rintro _ _ ⟨a13, c13, hs0, rfl, rfl⟩
  have hsv : ixsV rs = srcV (isC lay) rs := by unfold ixsV srcV; rw [if_pos h, isC_f hs]; rfl
  have hsl := src_len (isC lay) rs
  rw [tuL_cnt] at hsl
  have hc4 := h.2.2.2
  have hl3 := h.2.1
  rw [hsv]
  refine JO.pur rfl rfl rfl (Pur.move rfl) ?_
  refine JO.pur rfl rfl rfl (Pur.extract rfl rfl) ?_
  refine JO.pur rfl rfl rfl (Pur.extract rfl rfl) ?_
  refine JO.pur rfl rfl rfl (Pur.assign rfl) ?_
  refine JO.pur rfl rfl rfl (Pur.assign rfl) ?_
  refine JO.nil ?_
  refine J.seq rfl ?_
  refine J.seq rfl ?_
  refine J.fact (fun h s => RowsR.len (E := intE) (hs := hs0) (xss := srcV (isC lay) rs) s) fun hn0 => ?_
  have hh0 := rows_len hn0
  refine J.region rfl ?_
  refine JO.pur rfl rfl rfl (Pur.move rfl) ?_
  refine JO.pur rfl rfl rfl (Pur.len rfl) ?_
  refine JO.pur rfl rfl rfl (Pur.move rfl) ?_
  refine JO.nil ?_
  refine J.block rfl ?_
  refine J.loopF (ι := Nat × List Hdr) (fun q => q.1 ≤ (srcV (isC lay) rs).length ∧ q.2.length = (srcV (isC lay) rs).length) (fun q => [(18, .int .i64 (q.1 : Int))]) [(0, _), (5, _), (16, _), (17, _)] (fun q => sl hE a13 c13 q.2 :: rows intE q.2 (midV (isC lay) rs q.1) :: L) (fun q => (srcV (isC lay) rs).length - q.1) (0, hs0) rfl (.cons rfl rfl (.cons rfl rfl (.cons rfl rfl (.cons rfl rfl .nil)))) (.cons rfl rfl .nil) (fun h s => by dsimp only; rw [mid_zero]; exact SubC.out h s) ⟨Nat.zero_le _, hh0⟩ ?_
  rintro ⟨k, hsq⟩ ⟨hk, hhl⟩ ih0
  try dsimp only
  dsimp only at hk hhl
  refine J.seq rfl ?_
  refine J.region rfl ?_
  refine JO.pur rfl rfl rfl (Pur.lss rfl rfl) ?_
  refine JO.nil ?_
  refine J.seq rfl ?_
  refine J.splitB 19 rfl (fun h19 => ?_) (fun h19 => ?_)
  · try simp only [decide_eq_true_eq, decide_eq_false_iff_not, Bool.not_eq_true', Bool.not_eq_false', Bool.and_eq_true, Bool.or_eq_true, Bool.and_eq_false_iff, Bool.or_eq_false_iff, Option.isNone_some, Option.isSome_some, Option.isNone_none, Option.isSome_none, Int.not_lt, Int.not_le, beq_iff_eq, beq_eq_false_iff_ne, bne_iff_ne, ne_eq, Bool.not_not, Decidable.not_not] at h19
    have hkl : k < (srcV (isC lay) rs).length := by omega
    obtain ⟨x, hx⟩ : ∃ x, (srcV (isC lay) rs)[k]? = some x := ⟨_, List.getElem?_eq_getElem hkl⟩
    have hX := mid_get hx
    have hxl := src_row hx
    obtain ⟨hd, hH⟩ : ∃ hd, hsq[k]? = some hd := ⟨_, List.getElem?_eq_getElem (by omega)⟩
    refine J.fact (fun h s => RowsR.len (E := intE) (hs := hsq) (xss := midV (isC lay) rs k) s) fun hnn => ?_
    refine J.fact (fun h s => RowsR.fit (E := intE) (hs := hsq) (xss := midV (isC lay) rs k) s hH hX) fun hfit => ?_
    have hdn := hdr_n hnn hH hX
    refine J.condT rfl rfl ?_
    refine J.skip rfl ?_
    refine J.seq rfl ?_
    refine J.block rfl ?_
    refine J.seq rfl ?_
    refine J.region rfl ?_
    refine JO.pur rfl rfl rfl (Pur.move rfl) ?_
    refine JO.pur rfl rfl rfl (Pur.idx rfl rfl rfl (by first | rfl | (simp; done) | omega) rfl (by omega)) ?_
    refine JO.pur rfl rfl rfl (Pur.load rfl (CellIn.el0 rfl hH rfl)) ?_
    refine JO.setv (u' := .slice hd.a hd.n hd.cap) 22 rfl rfl ?_
    refine JO.pur rfl rfl rfl (Pur.assign rfl) ?_
    refine JO.pur rfl rfl rfl (Pur.assign rfl) ?_
    refine JO.nil ?_
    refine J.region rfl ?_
    refine JO.pur rfl rfl rfl (Pur.move rfl) ?_
    refine JO.pur rfl rfl rfl (Pur.move rfl) ?_
    refine JO.pur rfl rfl rfl (Pur.move rfl) ?_
    refine JO.pur rfl rfl rfl (Pur.move rfl) ?_
    refine JO.eff rfl rfl rfl (Eff.call rfl (@lindex _ lay _ _ _ x (RowsR.row (E := intE) inferInstance hH hX) hdn (by omega) hfit.1)) ?_
    rintro _ _ ⟨a27, c27, rfl, rfl⟩
    refine JO.pur rfl rfl rfl (Pur.idx rfl rfl rfl (by first | rfl | (simp; done) | omega) rfl (by omega)) ?_
    refine JO.effN rfl rfl (Eff.storeS0 (z' := ⟨a27, x.length, c27⟩) rfl rfl rfl rfl hH .head) ?_
    rintro _ _ ⟨rfl, rfl⟩
    refine JO.nil ?_
    refine J.inBlock ?_
    refine J.region rfl ?_
    refine JO.pur rfl rfl rfl (Pur.add rfl rfl (wr64 (by omega))) ?_
    refine JO.pur rfl rfl rfl (Pur.move rfl) ?_
    refine JO.nil ?_
    exact J.weaken (.cons rfl (congrArg (Value.int .i64) (by first | rfl | (dsimp only; omega))) (.cons rfl rfl (.cons rfl rfl (.cons rfl rfl (.cons rfl rfl .nil))))) (fun h s => by have s2 := put_row (hs := hsq) (xss := midV (isC lay) rs k) (i := k) (a := a27) (n := x.length) (cap := c27) (xs := ixL (isC lay) x) (by omega) (ixL_len _ _).symm s; rw [mid_step hx] at s2; exact SubC.out h s2) (ih0 (k + 1, hsq.set k ⟨a27, x.length, c27⟩) ⟨by dsimp only; omega, by simp [hhl]⟩ (by dsimp only; omega))
  · try simp only [decide_eq_true_eq, decide_eq_false_iff_not, Bool.not_eq_true', Bool.not_eq_false', Bool.and_eq_true, Bool.or_eq_true, Bool.and_eq_false_iff, Bool.or_eq_false_iff, Option.isNone_some, Option.isSome_some, Option.isNone_none, Option.isSome_none, Int.not_lt, Int.not_le, beq_iff_eq, beq_eq_false_iff_ne, bne_iff_ne, ne_eq, Bool.not_not, Decidable.not_not] at h19
    have hke : k = (srcV (isC lay) rs).length := by omega
    refine J.condF rfl rfl ?_
    refine J.exit rfl rfl ?_
    refine J.seq rfl ?_
    refine J.region rfl ?_
    refine JO.pur rfl rfl rfl (Pur.move rfl) ?_
    refine JO.pur rfl rfl rfl (Pur.assign rfl) ?_
    refine JO.nil ?_
    refine J.ret rfl rfl ?_
    have hol := ord_len2 (isC lay) rs
    refine ⟨_, _, ⟨a13, c13, hsq, rfl, rfl⟩, by rw [hol, ← hsl]; rfl, fun h s => ?_⟩
    rw [hke, mid_all] at s
    exact SubC.out h s

theorem lall_col {L : List Asn} {lay : ByteArray} {a : Option Addr} {n cap : Nat} {rs : List Rg} [SlIn rgE L a rs] (hn : n = rs.length) (h : okD rs) (hs : lay = colS) :
    CallS Try.prog 133 [.string lay, .agg #[.slice a n cap]].toArray L (fun v M => ∃ a' c' hs, v = .slice a' (ordL (isC lay) rs).length c' ∧ M = sl hE a' c' hs :: rows intE hs (ordL (isC lay) rs) :: L) := by
  subst hn
  refine CallS.ent ?_
  refine CallS.enter Try.func133 rfl rfl rfl rfl rfl ?_
  refine J.seq rfl ?_
  refine J.region rfl ?_
  refine JO.eff rfl rfl rfl (Eff.box (cs := [_]) rfl rfl) ?_
  rintro _ _ ⟨b3, rfl, rfl⟩
  refine JO.pur rfl rfl rfl (Pur.assign rfl) ?_
  refine JO.nil ?_
  refine J.seq rfl ?_
  refine J.region rfl ?_
  refine JO.pur rfl rfl rfl (Pur.move rfl) ?_
  refine JO.pur rfl rfl rfl (Pur.loadA rfl rfl rfl CellsIn.blk) ?_
  refine JO.eff rfl rfl rfl (Eff.call rfl (turned_col (rs := rs) rfl hs h)) ?_
  rintro _ _ ⟨a12, c12, rfl, rfl⟩
  refine JO.eff rfl rfl rfl (Eff.call rfl (d_Indexes (rs := (canD rs).reverse) (by rw [List.length_reverse, canD_len]))) ?_
  rintro _ _ ⟨a13, c13, hs0, rfl, rfl⟩
  have hsv : ixsV (canD rs).reverse = srcV (isC lay) rs := by unfold ixsV srcV; rw [if_pos (col_ok h), isC_t hs]; exact col_idx h
  have hsl := src_len (isC lay) rs
  rw [tuL_cnt] at hsl
  have hc4 := h.2.2.2
  have hl3 := h.2.1
  rw [hsv]
  refine JO.pur rfl rfl rfl (Pur.move rfl) ?_
  refine JO.pur rfl rfl rfl (Pur.extract rfl rfl) ?_
  refine JO.pur rfl rfl rfl (Pur.extract rfl rfl) ?_
  refine JO.pur rfl rfl rfl (Pur.assign rfl) ?_
  refine JO.pur rfl rfl rfl (Pur.assign rfl) ?_
  refine JO.nil ?_
  refine J.seq rfl ?_
  refine J.seq rfl ?_
  refine J.fact (fun h s => RowsR.len (E := intE) (hs := hs0) (xss := srcV (isC lay) rs) s) fun hn0 => ?_
  have hh0 := rows_len hn0
  refine J.region rfl ?_
  refine JO.pur rfl rfl rfl (Pur.move rfl) ?_
  refine JO.pur rfl rfl rfl (Pur.len rfl) ?_
  refine JO.pur rfl rfl rfl (Pur.move rfl) ?_
  refine JO.nil ?_
  refine J.block rfl ?_
  refine J.loopF (ι := Nat × List Hdr) (fun q => q.1 ≤ (srcV (isC lay) rs).length ∧ q.2.length = (srcV (isC lay) rs).length) (fun q => [(18, .int .i64 (q.1 : Int))]) [(0, _), (5, _), (16, _), (17, _)] (fun q => sl hE a13 c13 q.2 :: rows intE q.2 (midV (isC lay) rs q.1) :: L) (fun q => (srcV (isC lay) rs).length - q.1) (0, hs0) rfl (.cons rfl rfl (.cons rfl rfl (.cons rfl rfl (.cons rfl rfl .nil)))) (.cons rfl rfl .nil) (fun h s => by dsimp only; rw [mid_zero]; exact SubC.out h s) ⟨Nat.zero_le _, hh0⟩ ?_
  rintro ⟨k, hsq⟩ ⟨hk, hhl⟩ ih0
  try dsimp only
  dsimp only at hk hhl
  refine J.seq rfl ?_
  refine J.region rfl ?_
  refine JO.pur rfl rfl rfl (Pur.lss rfl rfl) ?_
  refine JO.nil ?_
  refine J.seq rfl ?_
  refine J.splitB 19 rfl (fun h19 => ?_) (fun h19 => ?_)
  · try simp only [decide_eq_true_eq, decide_eq_false_iff_not, Bool.not_eq_true', Bool.not_eq_false', Bool.and_eq_true, Bool.or_eq_true, Bool.and_eq_false_iff, Bool.or_eq_false_iff, Option.isNone_some, Option.isSome_some, Option.isNone_none, Option.isSome_none, Int.not_lt, Int.not_le, beq_iff_eq, beq_eq_false_iff_ne, bne_iff_ne, ne_eq, Bool.not_not, Decidable.not_not] at h19
    have hkl : k < (srcV (isC lay) rs).length := by omega
    obtain ⟨x, hx⟩ : ∃ x, (srcV (isC lay) rs)[k]? = some x := ⟨_, List.getElem?_eq_getElem hkl⟩
    have hX := mid_get hx
    have hxl := src_row hx
    obtain ⟨hd, hH⟩ : ∃ hd, hsq[k]? = some hd := ⟨_, List.getElem?_eq_getElem (by omega)⟩
    refine J.fact (fun h s => RowsR.len (E := intE) (hs := hsq) (xss := midV (isC lay) rs k) s) fun hnn => ?_
    refine J.fact (fun h s => RowsR.fit (E := intE) (hs := hsq) (xss := midV (isC lay) rs k) s hH hX) fun hfit => ?_
    have hdn := hdr_n hnn hH hX
    refine J.condT rfl rfl ?_
    refine J.skip rfl ?_
    refine J.seq rfl ?_
    refine J.block rfl ?_
    refine J.seq rfl ?_
    refine J.region rfl ?_
    refine JO.pur rfl rfl rfl (Pur.move rfl) ?_
    refine JO.pur rfl rfl rfl (Pur.idx rfl rfl rfl (by first | rfl | (simp; done) | omega) rfl (by omega)) ?_
    refine JO.pur rfl rfl rfl (Pur.load rfl (CellIn.el0 rfl hH rfl)) ?_
    refine JO.setv (u' := .slice hd.a hd.n hd.cap) 22 rfl rfl ?_
    refine JO.pur rfl rfl rfl (Pur.assign rfl) ?_
    refine JO.pur rfl rfl rfl (Pur.assign rfl) ?_
    refine JO.nil ?_
    refine J.region rfl ?_
    refine JO.pur rfl rfl rfl (Pur.move rfl) ?_
    refine JO.pur rfl rfl rfl (Pur.move rfl) ?_
    refine JO.pur rfl rfl rfl (Pur.move rfl) ?_
    refine JO.pur rfl rfl rfl (Pur.move rfl) ?_
    refine JO.eff rfl rfl rfl (Eff.call rfl (@lindex _ lay _ _ _ x (RowsR.row (E := intE) inferInstance hH hX) hdn (by omega) hfit.1)) ?_
    rintro _ _ ⟨a27, c27, rfl, rfl⟩
    refine JO.pur rfl rfl rfl (Pur.idx rfl rfl rfl (by first | rfl | (simp; done) | omega) rfl (by omega)) ?_
    refine JO.effN rfl rfl (Eff.storeS0 (z' := ⟨a27, x.length, c27⟩) rfl rfl rfl rfl hH .head) ?_
    rintro _ _ ⟨rfl, rfl⟩
    refine JO.nil ?_
    refine J.inBlock ?_
    refine J.region rfl ?_
    refine JO.pur rfl rfl rfl (Pur.add rfl rfl (wr64 (by omega))) ?_
    refine JO.pur rfl rfl rfl (Pur.move rfl) ?_
    refine JO.nil ?_
    exact J.weaken (.cons rfl (congrArg (Value.int .i64) (by first | rfl | (dsimp only; omega))) (.cons rfl rfl (.cons rfl rfl (.cons rfl rfl (.cons rfl rfl .nil))))) (fun h s => by have s2 := put_row (hs := hsq) (xss := midV (isC lay) rs k) (i := k) (a := a27) (n := x.length) (cap := c27) (xs := ixL (isC lay) x) (by omega) (ixL_len _ _).symm s; rw [mid_step hx] at s2; exact SubC.out h s2) (ih0 (k + 1, hsq.set k ⟨a27, x.length, c27⟩) ⟨by dsimp only; omega, by simp [hhl]⟩ (by dsimp only; omega))
  · try simp only [decide_eq_true_eq, decide_eq_false_iff_not, Bool.not_eq_true', Bool.not_eq_false', Bool.and_eq_true, Bool.or_eq_true, Bool.and_eq_false_iff, Bool.or_eq_false_iff, Option.isNone_some, Option.isSome_some, Option.isNone_none, Option.isSome_none, Int.not_lt, Int.not_le, beq_iff_eq, beq_eq_false_iff_ne, bne_iff_ne, ne_eq, Bool.not_not, Decidable.not_not] at h19
    have hke : k = (srcV (isC lay) rs).length := by omega
    refine J.condF rfl rfl ?_
    refine J.exit rfl rfl ?_
    refine J.seq rfl ?_
    refine J.region rfl ?_
    refine JO.pur rfl rfl rfl (Pur.move rfl) ?_
    refine JO.pur rfl rfl rfl (Pur.assign rfl) ?_
    refine JO.nil ?_
    refine J.ret rfl rfl ?_
    have hol := ord_len2 (isC lay) rs
    refine ⟨_, _, ⟨a13, c13, hsq, rfl, rfl⟩, by rw [hol, ← hsl]; rfl, fun h s => ?_⟩
    rw [hke, mid_all] at s
    exact SubC.out h s

theorem lall {L : List Asn} {lay : ByteArray} {a : Option Addr} {n cap : Nat} {rs : List Rg} [SlIn rgE L a rs] (hn : n = rs.length) (h : okD rs) : CallS Try.prog 133 [.string lay, .agg #[.slice a n cap]].toArray L (fun v M => ∃ a' c' hs, v = .slice a' (ordL (isC lay) rs).length c' ∧ M = sl hE a' c' hs :: rows intE hs (ordL (isC lay) rs) :: L) := by
  by_cases hs : lay = colS
  · exact lall_col hn h hs
  · exact lall_row hn h hs
theorem loffsets {L : List Asn} {lay : ByteArray} {a b : Option Addr} {n cap m cq : Nat} {rs ss : List Rg} [SlIn rgE L a rs] [SlIn rgE L b ss] (hn : n = rs.length) (hm : m = ss.length) (h1 : okD rs) (h2 : okD ss) :
    CallS Try.prog 125 [.string lay, .agg #[.slice a n cap], .agg #[.slice b m cq]].toArray L (fun v M => ∃ a' c', v = .slice a' (offsL (isC lay) rs ss).length c' ∧ M = sl intE a' c' (offsL (isC lay) rs ss) :: L) := by
  subst hn
  subst hm
  refine CallS.ent ?_
  refine CallS.enter Try.func125 rfl rfl rfl rfl rfl ?_
  refine J.seq rfl ?_
  refine J.region rfl ?_
  refine JO.eff rfl rfl rfl (Eff.box (cs := [_]) rfl rfl) ?_
  rintro _ _ ⟨b4, rfl, rfl⟩
  refine JO.eff rfl rfl rfl (Eff.box (cs := [_]) rfl rfl) ?_
  rintro _ _ ⟨b5, rfl, rfl⟩
  refine JO.pur rfl rfl rfl (Pur.assign rfl) ?_
  refine JO.nil ?_
  refine J.seq rfl ?_
  refine J.region rfl ?_
  refine JO.pur rfl rfl rfl (Pur.assign rfl) ?_
  refine JO.nil ?_
  refine J.seq rfl ?_
  refine J.seq rfl ?_
  refine J.region rfl ?_
  refine JO.pur rfl rfl rfl (Pur.move rfl) ?_
  refine JO.pur rfl rfl rfl (Pur.loadA rfl rfl rfl CellsIn.blk) ?_
  refine JO.eff rfl rfl rfl (Eff.call rfl (lall (rs := ss) rfl h2)) ?_
  rintro _ _ ⟨a14, c14, hs, rfl, rfl⟩
  have hol := ord_len2 (isC lay) ss
  have hc4 := h2.2.2.2
  have hl3 := h2.2.1
  refine JO.pur rfl rfl rfl (Pur.len rfl) ?_
  refine JO.pur rfl rfl rfl (Pur.move rfl) ?_
  refine JO.nil ?_
  refine J.block rfl ?_
  refine J.loopF (ι := Nat × Option Addr × Nat) (fun q => q.1 ≤ (ordL (isC lay) ss).length) (fun q => [(7, .slice q.2.1 q.1 q.2.2), (16, .int .i64 (q.1 : Int))]) [(0, _), (4, _), (14, _), (15, _)] (fun q => sl intE q.2.1 q.2.2 ((offsL (isC lay) rs ss).take q.1) :: sl hE a14 c14 hs :: rows intE hs (ordL (isC lay) ss) :: blk b4 (.cells #[.slice a rs.length cap] 24) :: L) (fun q => (ordL (isC lay) ss).length - q.1) (0, none, 0) rfl (.cons rfl rfl (.cons rfl rfl (.cons rfl rfl (.cons rfl rfl .nil)))) (.cons rfl rfl (.cons rfl rfl .nil)) (fun h s => by have s2 := sl_nil_new (E := intE) s; dsimp only; rw [List.take_zero]; exact SubC.out (L := sl intE none 0 [] :: _) h s2) (Nat.zero_le _) ?_
  rintro ⟨k, a7, c7⟩ hk ih0
  try dsimp only
  dsimp only at hk
  have hfl : (offsL (isC lay) rs ss).length = (ordL (isC lay) ss).length := by simp [offsL]
  have htl : ((offsL (isC lay) rs ss).take k).length = k := by rw [List.length_take]; omega
  refine J.seq rfl ?_
  refine J.region rfl ?_
  refine JO.pur rfl rfl rfl (Pur.lss rfl rfl) ?_
  refine JO.nil ?_
  refine J.seq rfl ?_
  refine J.splitB 17 rfl (fun h17 => ?_) (fun h17 => ?_)
  · try simp only [decide_eq_true_eq, decide_eq_false_iff_not, Bool.not_eq_true', Bool.not_eq_false', Bool.and_eq_true, Bool.or_eq_true, Bool.and_eq_false_iff, Bool.or_eq_false_iff, Option.isNone_some, Option.isSome_some, Option.isNone_none, Option.isSome_none, Int.not_lt, Int.not_le, beq_iff_eq, beq_eq_false_iff_ne, bne_iff_ne, ne_eq, Bool.not_not, Decidable.not_not] at h17
    have hkl : k < (ordL (isC lay) ss).length := by omega
    obtain ⟨x, hX⟩ : ∃ x, (ordL (isC lay) ss)[k]? = some x := ⟨_, List.getElem?_eq_getElem hkl⟩
    have hxl := ord_row (List.mem_of_getElem? hX)
    have hap1 : (offsL (isC lay) rs ss).take (k + 1) = (offsL (isC lay) rs ss).take k ++ [((offZ (isC lay) rs x : Nat) : Int)] := take_get (by unfold offsL; rw [List.getElem?_map, hX]; rfl)
    refine J.fact (fun h s => RowsR.len (E := intE) (hs := hs) (xss := ordL (isC lay) ss) s) fun hn0 => ?_
    have hh0 := rows_len hn0
    obtain ⟨hd, hH⟩ : ∃ hd, hs[k]? = some hd := ⟨_, List.getElem?_eq_getElem (by omega)⟩
    refine J.fact (fun h s => RowsR.len (E := intE) (hs := hs) (xss := ordL (isC lay) ss) s) fun hnn => ?_
    refine J.fact (fun h s => RowsR.fit (E := intE) (hs := hs) (xss := ordL (isC lay) ss) s hH hX) fun hfit => ?_
    have hdn := hdr_n hnn hH hX
    refine J.condT rfl rfl ?_
    refine J.skip rfl ?_
    refine J.seq rfl ?_
    refine J.block rfl ?_
    refine J.seq rfl ?_
    refine J.region rfl ?_
    refine JO.pur rfl rfl rfl (Pur.idx rfl rfl rfl (by first | rfl | (simp; done) | omega) rfl (by omega)) ?_
    refine JO.pur rfl rfl rfl (Pur.load rfl (CellIn.el0 rfl hH rfl)) ?_
    refine JO.setv (u' := .slice hd.a hd.n hd.cap) 19 rfl rfl ?_
    refine JO.pur rfl rfl rfl (Pur.assign rfl) ?_
    refine JO.nil ?_
    refine J.seq rfl ?_
    refine J.region rfl ?_
    refine JO.pur rfl rfl rfl (Pur.move rfl) ?_
    refine JO.pur rfl rfl rfl (Pur.loadA rfl rfl rfl CellsIn.blk) ?_
    refine JO.pur rfl rfl rfl (Pur.move rfl) ?_
    refine JO.effR rfl rfl rfl (Eff.call rfl (@loffset _ lay _ _ _ _ _ _ rs x inferInstance (RowsR.row (E := intE) inferInstance hH hX) rfl hdn (by omega) hfit.1 h1)) ?_
    refine JO.pur rfl rfl rfl (Pur.move rfl) ?_
    refine JO.pur rfl rfl rfl (Pur.extract rfl rfl) ?_
    refine JO.setv (u' := .int .i64 ((offZ (isC lay) rs x : Nat) : Int)) 25 rfl rfl ?_
    refine JO.pur rfl rfl rfl (Pur.extract rfl rfl) ?_
    refine JO.pur rfl rfl rfl (Pur.assign rfl) ?_
    refine JO.pur rfl rfl rfl (Pur.assign rfl) ?_
    refine JO.nil ?_
    refine J.region rfl ?_
    refine JO.pur rfl rfl rfl (Pur.move rfl) ?_
    refine JO.pur rfl rfl rfl (Pur.move rfl) ?_
    refine JO.eff rfl rfl rfl (Eff.buildSlice intE [((offZ (isC lay) rs x : Nat) : Int)] rfl rfl rfl rfl rfl rfl rfl) ?_
    rintro _ _ ⟨b29, rfl, -, rfl⟩
    refine JO.eff rfl rfl rfl (Eff.append rfl rfl rfl rfl (by first | rfl | omega | (simp; done) | (simp; omega)) (by first | rfl | omega | (simp; done) | (simp; omega)) (by decide) (by simp; omega) (by simp; omega) (fun h => by cases h)) ?_
    rintro _ _ ⟨a30, c30, rfl, rfl⟩
    refine JO.pur rfl rfl rfl (Pur.assign rfl) ?_
    refine JO.nil ?_
    refine J.inBlock ?_
    refine J.region rfl ?_
    refine JO.pur rfl rfl rfl (Pur.add rfl rfl (wr64 (by omega))) ?_
    refine JO.pur rfl rfl rfl (Pur.move rfl) ?_
    refine JO.nil ?_
    exact J.weaken (.cons rfl (by show Value.slice a30 _ c30 = Value.slice a30 (k + 1) c30; rw [htl]; rfl) (.cons rfl (congrArg (Value.int .i64) (by first | rfl | (dsimp only; omega))) (.cons rfl rfl (.cons rfl rfl (.cons rfl rfl (.cons rfl rfl .nil)))))) (fun h s => by rw [← hap1] at s; exact SubC.out h s) (ih0 (k + 1, a30, c30) (by dsimp only; omega) (by dsimp only; omega))
  · try simp only [decide_eq_true_eq, decide_eq_false_iff_not, Bool.not_eq_true', Bool.not_eq_false', Bool.and_eq_true, Bool.or_eq_true, Bool.and_eq_false_iff, Bool.or_eq_false_iff, Option.isNone_some, Option.isSome_some, Option.isNone_none, Option.isSome_none, Int.not_lt, Int.not_le, beq_iff_eq, beq_eq_false_iff_ne, bne_iff_ne, ne_eq, Bool.not_not, Decidable.not_not] at h17
    have hke : k = (offsL (isC lay) rs ss).length := by omega
    refine J.condF rfl rfl ?_
    refine J.exit rfl rfl ?_
    refine J.seq rfl ?_
    refine J.region rfl ?_
    refine JO.pur rfl rfl rfl (Pur.move rfl) ?_
    refine JO.pur rfl rfl rfl (Pur.assign rfl) ?_
    refine JO.nil ?_
    refine J.ret rfl rfl ?_
    refine ⟨_, _, ⟨a7, c7, rfl, rfl⟩, by rw [← hke]; rfl, fun h s => ?_⟩
    rw [hke, List.take_length] at s
    exact SubC.out h s

theorem hsl1 {L : List Asn} {a : Option Addr} {n cap : Nat} {rs : List Rg} [SlIn rgE L a rs] (hn : n = rs.length) : ∀ (i : Nat) (hd : Hdr) (rs' : List Rg), [(⟨a, n, cap⟩ : Hdr)][i]? = some hd → [rs][i]? = some rs' → SlIn rgE L hd.a rs' ∧ hd.n = rs'.length := fun i hd rs' h1 h2 => by
  cases i with
  | zero => cases h1; cases h2; exact ⟨inferInstance, hn⟩
  | succ i => simp at h1
theorem hsl2 {L : List Asn} {a b : Option Addr} {n cap m cq : Nat} {rs ss : List Rg} [SlIn rgE L a rs] [SlIn rgE L b ss] (hn : n = rs.length) (hm : m = ss.length) : ∀ (i : Nat) (hd : Hdr) (rs' : List Rg), [(⟨a, n, cap⟩ : Hdr), ⟨b, m, cq⟩][i]? = some hd → [rs, ss][i]? = some rs' → SlIn rgE L hd.a rs' ∧ hd.n = rs'.length := fun i hd rs' h1 h2 => by
  match i, h1, h2 with
  | 0, h1, h2 => cases h1; cases h2; exact ⟨inferInstance, hn⟩
  | 1, h1, h2 => cases h1; cases h2; exact ⟨inferInstance, hm⟩
  | i + 2, h1, h2 => simp at h1
/-- The errors of a layout and domains. -/
def ask1 (lay : ByteArray) (rs : List Rg) : Int := if ¬ okL lay then 60 else if ¬ okD rs then 40 else 0
def ask2 (lay : ByteArray) (rs ss : List Rg) : Int := if ¬ okL lay then 60 else if ¬ (okD rs ∧ okD ss) then 40 else 0
theorem ask1_eq (lay : ByteArray) (rs : List Rg) : askV [lay] [rs] = ask1 lay rs := by simp [askV, ask1]
theorem ask2_eq (lay : ByteArray) (rs ss : List Rg) : askV [lay] [rs, ss] = ask2 lay rs ss := by simp [askV, ask2]
theorem ask21_eq (lay lay2 : ByteArray) (rs : List Rg) : askV [lay, lay2] [rs] = if ¬ (okL lay ∧ okL lay2) then 60 else if ¬ okD rs then 40 else 0 := by simp [askV]
theorem ask1_ok {lay : ByteArray} {rs : List Rg} (h : ask1 lay rs = 0) : okL lay ∧ okD rs := by
  unfold ask1 at h
  by_cases h1 : okL lay
  · rw [if_neg (not_not_intro h1)] at h
    by_cases h2 : okD rs
    · exact ⟨h1, h2⟩
    · rw [if_pos h2] at h; cases h
  · rw [if_pos h1] at h; cases h
theorem ask2_ok {lay : ByteArray} {rs ss : List Rg} (h : ask2 lay rs ss = 0) : okL lay ∧ okD rs ∧ okD ss := by
  unfold ask2 at h
  by_cases h1 : okL lay
  · rw [if_neg (not_not_intro h1)] at h
    by_cases h2 : okD rs ∧ okD ss
    · exact ⟨h1, h2⟩
    · rw [if_pos h2] at h; cases h
  · rw [if_pos h1] at h; cases h
def wthV (lay : ByteArray) (rs ss : List Rg) : Int := if ask2 lay rs ss ≠ 0 then ask2 lay rs ss else if ss.length ≠ rs.length ∨ ¬ wiD ss rs then 2 else 0
theorem wthV_ok {lay : ByteArray} {rs ss : List Rg} (h : wthV lay rs ss = 0) : okL lay ∧ okD rs ∧ okD ss ∧ rs.length = ss.length ∧ wiD ss rs := by
  unfold wthV at h
  by_cases h1 : ask2 lay rs ss = 0
  · rw [if_neg (not_not_intro h1)] at h
    obtain ⟨g1, g2, g3⟩ := ask2_ok h1
    by_cases h2 : ss.length ≠ rs.length ∨ ¬ wiD ss rs
    · rw [if_pos h2] at h; cases h
    · exact ⟨g1, g2, g3, (Classical.byContradiction fun g => h2 (.inl g)).symm, Classical.byContradiction fun g => h2 (.inr g)⟩
  · rw [if_pos h1] at h; exact absurd h h1
theorem lwithin {L : List Asn} {lay : ByteArray} {a b : Option Addr} {n cap m cq : Nat} {rs ss : List Rg} [SlIn rgE L a rs] [SlIn rgE L b ss] (hn : n = rs.length) (hm : m = ss.length) :
    CallS Try.prog 124 [.string lay, .agg #[.slice a n cap], .agg #[.slice b m cq]].toArray L (fun v M => v = .int .i64 (wthV lay rs ss) ∧ M = L) := by
  subst hn
  subst hm
  refine CallS.ent ?_
  refine CallS.enter Try.func124 rfl rfl rfl rfl rfl ?_
  refine J.seq rfl ?_
  refine J.region rfl ?_
  refine JO.eff rfl rfl rfl (Eff.box (cs := [_]) rfl rfl) ?_
  rintro _ _ ⟨b4, rfl, rfl⟩
  refine JO.eff rfl rfl rfl (Eff.box (cs := [_]) rfl rfl) ?_
  rintro _ _ ⟨b5, rfl, rfl⟩
  refine JO.pur rfl rfl rfl (Pur.assign rfl) ?_
  refine JO.nil ?_
  refine J.seq rfl ?_
  refine J.seq rfl ?_
  refine J.region rfl ?_
  refine JO.pur rfl rfl rfl (Pur.move rfl) ?_
  refine JO.eff rfl rfl rfl (Eff.buildSlice stE [lay] rfl rfl rfl rfl rfl rfl rfl) ?_
  rintro _ _ ⟨b11, rfl, -, rfl⟩
  refine JO.pur rfl rfl rfl (Pur.loadA rfl rfl rfl CellsIn.blk) ?_
  refine JO.pur rfl rfl rfl (Pur.loadA rfl rfl rfl CellsIn.blk) ?_
  refine JO.eff rfl rfl rfl (Eff.buildSlice domE [⟨a, rs.length, cap⟩, ⟨b, ss.length, cq⟩] rfl rfl rfl rfl rfl rfl rfl) ?_
  rintro _ _ ⟨b14, rfl, -, rfl⟩
  refine JO.effR rfl rfl rfl (Eff.call rfl (lAsked (ss := [lay]) (hds := [⟨a, rs.length, cap⟩, ⟨b, ss.length, cq⟩]) (ds := [rs, ss]) rfl rfl rfl (by simp) (by simp) (hsl2 rfl rfl))) ?_
  rw [ask2_eq]
  refine JO.pur rfl rfl rfl (Pur.assign rfl) ?_
  refine JO.nil ?_
  refine J.seq rfl ?_
  refine J.region rfl ?_
  refine JO.pur rfl rfl rfl (Pur.move rfl) ?_
  refine JO.pur rfl rfl rfl (Pur.neqI rfl rfl) ?_
  refine JO.nil ?_
  refine J.splitB 17 rfl (fun h17 => ?_) (fun h17 => ?_)
  · try simp only [decide_eq_true_eq, decide_eq_false_iff_not, Bool.not_eq_true', Bool.not_eq_false', Bool.and_eq_true, Bool.or_eq_true, Bool.and_eq_false_iff, Bool.or_eq_false_iff, Option.isNone_some, Option.isSome_some, Option.isNone_none, Option.isSome_none, Int.not_lt, Int.not_le, beq_iff_eq, beq_eq_false_iff_ne, bne_iff_ne, ne_eq, Bool.not_not, Decidable.not_not] at h17
    have h17' : ask2 lay rs ss ≠ 0 := h17
    refine J.condT rfl rfl ?_
    refine J.seq rfl ?_
    refine J.region rfl ?_
    refine JO.pur rfl rfl rfl (Pur.move rfl) ?_
    refine JO.pur rfl rfl rfl (Pur.assign rfl) ?_
    refine JO.nil ?_
    refine J.ret rfl rfl ?_
    refine ⟨_, _, ⟨rfl, rfl⟩, congrArg (Value.int .i64) (show _ = wthV lay rs ss from ?_), SubC.out⟩
    unfold wthV; rw [if_pos h17']
  · try simp only [decide_eq_true_eq, decide_eq_false_iff_not, Bool.not_eq_true', Bool.not_eq_false', Bool.and_eq_true, Bool.or_eq_true, Bool.and_eq_false_iff, Bool.or_eq_false_iff, Option.isNone_some, Option.isSome_some, Option.isNone_none, Option.isSome_none, Int.not_lt, Int.not_le, beq_iff_eq, beq_eq_false_iff_ne, bne_iff_ne, ne_eq, Bool.not_not, Decidable.not_not] at h17
    have h17' : ask2 lay rs ss = 0 := by simpa using h17
    obtain ⟨g1, g2, g3⟩ := ask2_ok h17'
    refine J.condF rfl rfl ?_
    refine J.skip rfl ?_
    refine J.seq rfl ?_
    refine J.seq rfl ?_
    refine J.region rfl ?_
    refine JO.pur rfl rfl rfl (Pur.loadA rfl rfl rfl CellsIn.blk) ?_
    refine JO.pur rfl rfl rfl (Pur.loadA rfl rfl rfl CellsIn.blk) ?_
    refine JO.effR rfl rfl rfl (Eff.call rfl (d_Within (rs := ss) (ss := rs) rfl rfl)) ?_
    refine JO.pur rfl rfl rfl (Pur.move rfl) ?_
    refine JO.pur rfl rfl rfl (Pur.extract rfl rfl) ?_
    refine JO.setv (u' := .bool (witV ss rs).1) 23 rfl rfl ?_
    refine JO.pur rfl rfl rfl (Pur.extract rfl rfl) ?_
    refine JO.setv (u' := .int .i64 (witV ss rs).2) 24 rfl rfl ?_
    refine JO.pur rfl rfl rfl (Pur.assign rfl) ?_
    refine JO.pur rfl rfl rfl (Pur.assign rfl) ?_
    refine JO.nil ?_
    refine J.seq rfl ?_
    refine J.region rfl ?_
    refine JO.pur rfl rfl rfl (Pur.move rfl) ?_
    refine JO.pur rfl rfl rfl (Pur.neqI rfl rfl) ?_
    refine JO.pur rfl rfl rfl (Pur.move rfl) ?_
    refine JO.splitB 27 rfl (fun h27 => ?_) (fun h27 => ?_)
    · try simp only [decide_eq_true_eq, decide_eq_false_iff_not, Bool.not_eq_true', Bool.not_eq_false', Bool.and_eq_true, Bool.or_eq_true, Bool.and_eq_false_iff, Bool.or_eq_false_iff, Option.isNone_some, Option.isSome_some, Option.isNone_none, Option.isSome_none, Int.not_lt, Int.not_le, beq_iff_eq, beq_eq_false_iff_ne, bne_iff_ne, ne_eq, Bool.not_not, Decidable.not_not] at h27
      refine JO.no rfl rfl rfl ?_
      refine JO.no rfl rfl rfl ?_
      refine JO.pur rfl rfl rfl (Pur.pickT rfl rfl) ?_
      refine JO.nil ?_
      refine J.condT rfl rfl ?_
      refine J.seq rfl ?_
      refine J.region rfl ?_
      refine JO.pur rfl rfl rfl (Pur.assign rfl) ?_
      refine JO.nil ?_
      refine J.ret rfl rfl ?_
      refine ⟨_, _, ⟨rfl, rfl⟩, congrArg (Value.int .i64) (show _ = wthV lay rs ss from ?_), SubC.out⟩
      unfold wthV; rw [if_neg (not_not_intro h17')]; unfold witV twoV at *; by_cases e1 : ss.length = rs.length <;> by_cases e2 : wiD ss rs <;> simp_all
    · try simp only [decide_eq_true_eq, decide_eq_false_iff_not, Bool.not_eq_true', Bool.not_eq_false', Bool.and_eq_true, Bool.or_eq_true, Bool.and_eq_false_iff, Bool.or_eq_false_iff, Option.isNone_some, Option.isSome_some, Option.isNone_none, Option.isSome_none, Int.not_lt, Int.not_le, beq_iff_eq, beq_eq_false_iff_ne, bne_iff_ne, ne_eq, Bool.not_not, Decidable.not_not] at h27
      refine JO.pur rfl rfl rfl (Pur.move rfl) ?_
      refine JO.pur rfl rfl rfl (Pur.not rfl) ?_
      refine JO.pur rfl rfl rfl (Pur.pickF rfl rfl) ?_
      refine JO.nil ?_
      refine J.splitB 30 rfl (fun h30 => ?_) (fun h30 => ?_)
      · try simp only [decide_eq_true_eq, decide_eq_false_iff_not, Bool.not_eq_true', Bool.not_eq_false', Bool.and_eq_true, Bool.or_eq_true, Bool.and_eq_false_iff, Bool.or_eq_false_iff, Option.isNone_some, Option.isSome_some, Option.isNone_none, Option.isSome_none, Int.not_lt, Int.not_le, beq_iff_eq, beq_eq_false_iff_ne, bne_iff_ne, ne_eq, Bool.not_not, Decidable.not_not] at h30
        refine J.condT rfl rfl ?_
        refine J.seq rfl ?_
        refine J.region rfl ?_
        refine JO.pur rfl rfl rfl (Pur.assign rfl) ?_
        refine JO.nil ?_
        refine J.ret rfl rfl ?_
        refine ⟨_, _, ⟨rfl, rfl⟩, congrArg (Value.int .i64) (show _ = wthV lay rs ss from ?_), SubC.out⟩
        unfold wthV; rw [if_neg (not_not_intro h17')]; unfold witV twoV at *; by_cases e1 : ss.length = rs.length <;> by_cases e2 : wiD ss rs <;> simp_all
      · try simp only [decide_eq_true_eq, decide_eq_false_iff_not, Bool.not_eq_true', Bool.not_eq_false', Bool.and_eq_true, Bool.or_eq_true, Bool.and_eq_false_iff, Bool.or_eq_false_iff, Option.isNone_some, Option.isSome_some, Option.isNone_none, Option.isSome_none, Int.not_lt, Int.not_le, beq_iff_eq, beq_eq_false_iff_ne, bne_iff_ne, ne_eq, Bool.not_not, Decidable.not_not] at h30
        refine J.condF rfl rfl ?_
        refine J.skip rfl ?_
        refine J.seq rfl ?_
        refine J.region rfl ?_
        refine JO.pur rfl rfl rfl (Pur.assign rfl) ?_
        refine JO.nil ?_
        refine J.ret rfl rfl ?_
        refine ⟨_, _, ⟨rfl, rfl⟩, congrArg (Value.int .i64) (show _ = wthV lay rs ss from ?_), SubC.out⟩
        unfold wthV; rw [if_neg (not_not_intro h17')]; unfold witV twoV at *; by_cases e1 : ss.length = rs.length <;> by_cases e2 : wiD ss rs <;> simp_all

def ofV (lay : ByteArray) (rs : List Rg) (x : List Int) : Int × Int := if ask1 lay rs ≠ 0 then (0, ask1 lay rs) else match offL (isC lay) rs x with | some n => ((n : Int), 0) | none => (0, 2)
def ixV (lay : ByteArray) (rs : List Rg) (i : Int) : List Int × Int := if ask1 lay rs ≠ 0 then ([], ask1 lay rs) else if i < 0 ∨ (cntD rs : Int) ≤ i then ([], 2) else (((ordL (isC lay) rs)[i.toNat]?).getD [], 0)
theorem lOffset {L : List Asn} {lay : ByteArray} {a b : Option Addr} {n cap m cq : Nat} {rs : List Rg} {x : List Int} [SlIn rgE L a rs] [SlIn intE L b x] (hn : n = rs.length) (hm : m = x.length) (hb : x.length ≤ 17592186044416) (hnil : b = none → m = 0 ∧ cq = 0) :
    CallS Try.prog 70 [.string lay, .agg #[.slice a n cap], .slice b m cq].toArray L (fun v M => v = .tuple #[.int .i64 (ofV lay rs x).1, .int .i64 (ofV lay rs x).2] ∧ M = L) := by
  subst hn
  subst hm
  refine CallS.ent ?_
  refine CallS.enter Try.func70 rfl rfl rfl rfl rfl ?_
  refine J.seq rfl ?_
  refine J.region rfl ?_
  refine JO.eff rfl rfl rfl (Eff.box (cs := [_]) rfl rfl) ?_
  rintro _ _ ⟨b4, rfl, rfl⟩
  refine JO.pur rfl rfl rfl (Pur.assign rfl) ?_
  refine JO.pur rfl rfl rfl (Pur.assign rfl) ?_
  refine JO.nil ?_
  refine J.seq rfl ?_
  refine J.seq rfl ?_
  refine J.region rfl ?_
  refine JO.pur rfl rfl rfl (Pur.move rfl) ?_
  refine JO.eff rfl rfl rfl (Eff.buildSlice stE [lay] rfl rfl rfl rfl rfl rfl rfl) ?_
  rintro _ _ ⟨b12, rfl, -, rfl⟩
  refine JO.pur rfl rfl rfl (Pur.loadA rfl rfl rfl CellsIn.blk) ?_
  refine JO.eff rfl rfl rfl (Eff.buildSlice domE [⟨a, rs.length, cap⟩] rfl rfl rfl rfl rfl rfl rfl) ?_
  rintro _ _ ⟨b14, rfl, -, rfl⟩
  refine JO.effR rfl rfl rfl (Eff.call rfl (lAsked (ss := [lay]) (hds := [⟨a, rs.length, cap⟩]) (ds := [rs]) rfl rfl rfl (by simp) (by simp) (hsl1 rfl))) ?_
  rw [ask1_eq]
  refine JO.pur rfl rfl rfl (Pur.assign rfl) ?_
  refine JO.nil ?_
  refine J.seq rfl ?_
  refine J.region rfl ?_
  refine JO.pur rfl rfl rfl (Pur.move rfl) ?_
  refine JO.pur rfl rfl rfl (Pur.neqI rfl rfl) ?_
  refine JO.nil ?_
  refine J.splitB 17 rfl (fun h17 => ?_) (fun h17 => ?_)
  · try simp only [decide_eq_true_eq, decide_eq_false_iff_not, Bool.not_eq_true', Bool.not_eq_false', Bool.and_eq_true, Bool.or_eq_true, Bool.and_eq_false_iff, Bool.or_eq_false_iff, Option.isNone_some, Option.isSome_some, Option.isNone_none, Option.isSome_none, Int.not_lt, Int.not_le, beq_iff_eq, beq_eq_false_iff_ne, bne_iff_ne, ne_eq, Bool.not_not, Decidable.not_not] at h17
    have h17' : ask1 lay rs ≠ 0 := h17
    refine J.condT rfl rfl ?_
    refine J.seq rfl ?_
    refine J.region rfl ?_
    refine JO.pur rfl rfl rfl (Pur.move rfl) ?_
    refine JO.pur rfl rfl rfl (Pur.assign rfl) ?_
    refine JO.pur rfl rfl rfl (Pur.assign rfl) ?_
    refine JO.nil ?_
    refine J.ret rfl rfl ?_
    have hv : ofV lay rs x = (0, ask1 lay rs) := by unfold ofV; rw [if_pos h17']
    refine ⟨_, _, ⟨rfl, rfl⟩, by rw [hv]; rfl, SubC.out⟩
  · try simp only [decide_eq_true_eq, decide_eq_false_iff_not, Bool.not_eq_true', Bool.not_eq_false', Bool.and_eq_true, Bool.or_eq_true, Bool.and_eq_false_iff, Bool.or_eq_false_iff, Option.isNone_some, Option.isSome_some, Option.isNone_none, Option.isSome_none, Int.not_lt, Int.not_le, beq_iff_eq, beq_eq_false_iff_ne, bne_iff_ne, ne_eq, Bool.not_not, Decidable.not_not] at h17
    have h17' : ask1 lay rs = 0 := by simpa using h17
    obtain ⟨g1, g2⟩ := ask1_ok h17'
    refine J.condF rfl rfl ?_
    refine J.skip rfl ?_
    refine J.seq rfl ?_
    refine J.region rfl ?_
    refine JO.pur rfl rfl rfl (Pur.move rfl) ?_
    refine JO.pur rfl rfl rfl (Pur.loadA rfl rfl rfl CellsIn.blk) ?_
    refine JO.pur rfl rfl rfl (Pur.move rfl) ?_
    refine JO.effR rfl rfl rfl (Eff.call rfl (loffset (rs := rs) (x := x) rfl rfl hb hnil g2)) ?_
    refine JO.pur rfl rfl rfl (Pur.move rfl) ?_
    refine JO.pur rfl rfl rfl (Pur.extract rfl rfl) ?_
    refine JO.setv (u' := .int .i64 ((offZ (isC lay) rs x : Nat) : Int)) 24 rfl rfl ?_
    refine JO.pur rfl rfl rfl (Pur.extract rfl rfl) ?_
    refine JO.setv (u' := .bool (offL (isC lay) rs x).isSome) 25 rfl rfl ?_
    refine JO.pur rfl rfl rfl (Pur.assign rfl) ?_
    refine JO.pur rfl rfl rfl (Pur.assign rfl) ?_
    refine JO.nil ?_
    refine J.seq rfl ?_
    refine J.seq rfl ?_
    refine J.region rfl ?_
    refine JO.pur rfl rfl rfl (Pur.move rfl) ?_
    refine JO.pur rfl rfl rfl (Pur.not rfl) ?_
    refine JO.nil ?_
    refine J.splitB 27 rfl (fun h27 => ?_) (fun h27 => ?_)
    · try simp only [decide_eq_true_eq, decide_eq_false_iff_not, Bool.not_eq_true', Bool.not_eq_false', Bool.and_eq_true, Bool.or_eq_true, Bool.and_eq_false_iff, Bool.or_eq_false_iff, Option.isNone_some, Option.isSome_some, Option.isNone_none, Option.isSome_none, Int.not_lt, Int.not_le, beq_iff_eq, beq_eq_false_iff_ne, bne_iff_ne, ne_eq, Bool.not_not, Decidable.not_not] at h27
      refine J.condT rfl rfl ?_
      refine J.seq rfl ?_
      refine J.region rfl ?_
      refine JO.pur rfl rfl rfl (Pur.assign rfl) ?_
      refine JO.pur rfl rfl rfl (Pur.assign rfl) ?_
      refine JO.nil ?_
      refine J.ret rfl rfl ?_
      have hv : ofV lay rs x = (0, 2) := by
        unfold ofV; rw [if_neg (not_not_intro h17')]
        cases e : offL (isC lay) rs x with
        | none => rfl
        | some n => rw [e] at h27; simp at h27
      refine ⟨_, _, ⟨rfl, rfl⟩, by rw [hv]; rfl, SubC.out⟩
    · try simp only [decide_eq_true_eq, decide_eq_false_iff_not, Bool.not_eq_true', Bool.not_eq_false', Bool.and_eq_true, Bool.or_eq_true, Bool.and_eq_false_iff, Bool.or_eq_false_iff, Option.isNone_some, Option.isSome_some, Option.isNone_none, Option.isSome_none, Int.not_lt, Int.not_le, beq_iff_eq, beq_eq_false_iff_ne, bne_iff_ne, ne_eq, Bool.not_not, Decidable.not_not] at h27
      refine J.condF rfl rfl ?_
      refine J.skip rfl ?_
      refine J.seq rfl ?_
      refine J.region rfl ?_
      refine JO.pur rfl rfl rfl (Pur.move rfl) ?_
      refine JO.pur rfl rfl rfl (Pur.assign rfl) ?_
      refine JO.pur rfl rfl rfl (Pur.assign rfl) ?_
      refine JO.nil ?_
      refine J.ret rfl rfl ?_
      have hv : ofV lay rs x = (((offZ (isC lay) rs x : Nat) : Int), 0) := by
        unfold ofV; rw [if_neg (not_not_intro h17')]
        cases e : offL (isC lay) rs x with
        | none => rw [e] at h27; simp at h27
        | some n => unfold offZ; rw [e]; rfl
      refine ⟨_, _, ⟨rfl, rfl⟩, by rw [hv]; rfl, SubC.out⟩

theorem lIndex_row {L : List Asn} {lay : ByteArray} {a : Option Addr} {n cap : Nat} {rs : List Rg} {i : Int} [SlIn rgE L a rs] (hn : n = rs.length) (hs : ¬ lay = colS) :
    CallS Try.prog 72 [.string lay, .agg #[.slice a n cap], .int .i64 i].toArray L (fun v M => ∃ a' c', v = .tuple #[.slice a' (ixV lay rs i).1.length c', .int .i64 (ixV lay rs i).2] ∧ M = sl intE a' c' (ixV lay rs i).1 :: L) := by
  subst hn
  refine CallS.ent ?_
  refine CallS.enter Try.func72 rfl rfl rfl rfl rfl ?_
  refine J.seq rfl ?_
  refine J.region rfl ?_
  refine JO.eff rfl rfl rfl (Eff.box (cs := [_]) rfl rfl) ?_
  rintro _ _ ⟨b4, rfl, rfl⟩
  refine JO.pur rfl rfl rfl (Pur.assign rfl) ?_
  refine JO.pur rfl rfl rfl (Pur.assign rfl) ?_
  refine JO.nil ?_
  refine J.seq rfl ?_
  refine J.seq rfl ?_
  refine J.region rfl ?_
  refine JO.pur rfl rfl rfl (Pur.move rfl) ?_
  refine JO.eff rfl rfl rfl (Eff.buildSlice stE [lay] rfl rfl rfl rfl rfl rfl rfl) ?_
  rintro _ _ ⟨b12, rfl, -, rfl⟩
  refine JO.pur rfl rfl rfl (Pur.loadA rfl rfl rfl CellsIn.blk) ?_
  refine JO.eff rfl rfl rfl (Eff.buildSlice domE [⟨a, rs.length, cap⟩] rfl rfl rfl rfl rfl rfl rfl) ?_
  rintro _ _ ⟨b14, rfl, -, rfl⟩
  refine JO.effR rfl rfl rfl (Eff.call rfl (lAsked (ss := [lay]) (hds := [⟨a, rs.length, cap⟩]) (ds := [rs]) rfl rfl rfl (by simp) (by simp) (hsl1 rfl))) ?_
  rw [ask1_eq]
  refine JO.pur rfl rfl rfl (Pur.assign rfl) ?_
  refine JO.nil ?_
  refine J.seq rfl ?_
  refine J.region rfl ?_
  refine JO.pur rfl rfl rfl (Pur.move rfl) ?_
  refine JO.pur rfl rfl rfl (Pur.neqI rfl rfl) ?_
  refine JO.nil ?_
  refine J.splitB 17 rfl (fun h17 => ?_) (fun h17 => ?_)
  · try simp only [decide_eq_true_eq, decide_eq_false_iff_not, Bool.not_eq_true', Bool.not_eq_false', Bool.and_eq_true, Bool.or_eq_true, Bool.and_eq_false_iff, Bool.or_eq_false_iff, Option.isNone_some, Option.isSome_some, Option.isNone_none, Option.isSome_none, Int.not_lt, Int.not_le, beq_iff_eq, beq_eq_false_iff_ne, bne_iff_ne, ne_eq, Bool.not_not, Decidable.not_not] at h17
    have h17' : ask1 lay rs ≠ 0 := h17
    refine J.condT rfl rfl ?_
    refine J.seq rfl ?_
    refine J.region rfl ?_
    refine JO.pur rfl rfl rfl (Pur.move rfl) ?_
    refine JO.pur rfl rfl rfl (Pur.assign rfl) ?_
    refine JO.pur rfl rfl rfl (Pur.assign rfl) ?_
    refine JO.nil ?_
    refine J.ret rfl rfl ?_
    have hv : ixV lay rs i = ([], ask1 lay rs) := by unfold ixV; rw [if_pos h17']
    refine ⟨_, _, ⟨none, 0, rfl, rfl⟩, by rw [hv]; rfl, fun h s => ?_⟩
    rw [hv]; exact sl_nil_new (SubC.out h s)
  · try simp only [decide_eq_true_eq, decide_eq_false_iff_not, Bool.not_eq_true', Bool.not_eq_false', Bool.and_eq_true, Bool.or_eq_true, Bool.and_eq_false_iff, Bool.or_eq_false_iff, Option.isNone_some, Option.isSome_some, Option.isNone_none, Option.isSome_none, Int.not_lt, Int.not_le, beq_iff_eq, beq_eq_false_iff_ne, bne_iff_ne, ne_eq, Bool.not_not, Decidable.not_not] at h17
    have h17' : ask1 lay rs = 0 := by simpa using h17
    obtain ⟨g1, g2⟩ := ask1_ok h17'
    have hcc : cntD rs = cntD rs := rfl
    have hg2 : okD rs := g2
    refine J.condF rfl rfl ?_
    refine J.skip rfl ?_
    refine J.seq rfl ?_
    refine J.region rfl ?_
    refine JO.pur rfl rfl rfl (Pur.move rfl) ?_
    refine JO.pur rfl rfl rfl (Pur.loadA rfl rfl rfl CellsIn.blk) ?_
    refine JO.effR rfl rfl rfl (Eff.call rfl (turned_row hs)) ?_
    refine JO.pur rfl rfl rfl (Pur.move rfl) ?_
    refine JO.eff rfl rfl rfl (Eff.call rfl (d_Ith (rs := rs) (i := i) rfl)) ?_
    rintro _ _ ⟨a24, c24, rfl, rfl⟩
    refine JO.pur rfl rfl rfl (Pur.move rfl) ?_
    refine JO.pur rfl rfl rfl (Pur.extract rfl rfl) ?_
    refine JO.pur rfl rfl rfl (Pur.extract rfl rfl) ?_
    refine JO.setv (u' := .int .i64 (ithV rs i).2) 26 rfl rfl ?_
    refine JO.pur rfl rfl rfl (Pur.assign rfl) ?_
    refine JO.pur rfl rfl rfl (Pur.assign rfl) ?_
    refine JO.nil ?_
    refine J.seq rfl ?_
    refine J.seq rfl ?_
    refine J.region rfl ?_
    refine JO.pur rfl rfl rfl (Pur.move rfl) ?_
    refine JO.pur rfl rfl rfl (Pur.neqI rfl rfl) ?_
    refine JO.nil ?_
    refine J.splitB 28 rfl (fun h28 => ?_) (fun h28 => ?_)
    · try simp only [decide_eq_true_eq, decide_eq_false_iff_not, Bool.not_eq_true', Bool.not_eq_false', Bool.and_eq_true, Bool.or_eq_true, Bool.and_eq_false_iff, Bool.or_eq_false_iff, Option.isNone_some, Option.isSome_some, Option.isNone_none, Option.isSome_none, Int.not_lt, Int.not_le, beq_iff_eq, beq_eq_false_iff_ne, bne_iff_ne, ne_eq, Bool.not_not, Decidable.not_not] at h28
      have hib : i < 0 ∨ (cntD rs : Int) ≤ i := by
        refine Classical.byContradiction fun g => h28 ?_
        unfold ithV; rw [if_neg (not_not_intro hg2), if_neg (by rw [hcc]; exact g)]
      refine J.condT rfl rfl ?_
      refine J.seq rfl ?_
      refine J.region rfl ?_
      refine JO.pur rfl rfl rfl (Pur.assign rfl) ?_
      refine JO.pur rfl rfl rfl (Pur.assign rfl) ?_
      refine JO.nil ?_
      refine J.ret rfl rfl ?_
      have hv : ixV lay rs i = ([], 2) := by unfold ixV; rw [if_neg (not_not_intro h17'), if_pos hib]
      refine ⟨_, _, ⟨none, 0, rfl, rfl⟩, by rw [hv]; rfl, fun h s => ?_⟩
      rw [hv]; exact sl_nil_new (SubC.out h s)
    · try simp only [decide_eq_true_eq, decide_eq_false_iff_not, Bool.not_eq_true', Bool.not_eq_false', Bool.and_eq_true, Bool.or_eq_true, Bool.and_eq_false_iff, Bool.or_eq_false_iff, Option.isNone_some, Option.isSome_some, Option.isNone_none, Option.isSome_none, Int.not_lt, Int.not_le, beq_iff_eq, beq_eq_false_iff_ne, bne_iff_ne, ne_eq, Bool.not_not, Decidable.not_not] at h28
      have hib : ¬ (i < 0 ∨ (cntD rs : Int) ≤ i) := fun g => by
        have h9 : (ithV rs i).2 = 2 := by unfold ithV; rw [if_neg (not_not_intro hg2), if_pos (by rw [hcc]; exact g)]
        rw [h9] at h28; exact absurd h28 (by decide)
      obtain ⟨j, hj⟩ : ∃ j : Nat, i = (j : Int) := ⟨i.toNat, by omega⟩
      subst hj
      have hjl : j < cntD rs := by rw [hcc]; omega
      have hv1 : ithV rs ((j : Nat) : Int) = (ixD rs j, 0) := by unfold ithV; rw [if_neg (not_not_intro hg2), if_neg (by rw [hcc]; exact hib)]; rfl
      rw [hv1]
      have hxl := ixD_len hjl
      have hll : rs.length ≤ 3 := hg2.2.1
      refine J.fact (fun h s => SlH.nil (a := a24) (cap := c24) (E := intE) (xs := ixD rs j) s) fun hnl => ?_
      have hnl2 : a24 = none → (ixD rs j).length = 0 ∧ c24 = 0 := fun e => by obtain ⟨e1, e2⟩ := hnl e; exact ⟨by rw [e1]; rfl, e2⟩
      refine J.condF rfl rfl ?_
      refine J.skip rfl ?_
      refine J.seq rfl ?_
      refine J.region rfl ?_
      refine JO.pur rfl rfl rfl (Pur.move rfl) ?_
      refine JO.pur rfl rfl rfl (Pur.move rfl) ?_
      refine JO.eff rfl rfl rfl (Eff.call rfl (lindex (lay := lay) (x := ixD rs j) rfl (by omega) hnl2)) ?_
      rintro _ _ ⟨a31, c31, rfl, rfl⟩
      refine JO.pur rfl rfl rfl (Pur.assign rfl) ?_
      refine JO.pur rfl rfl rfl (Pur.assign rfl) ?_
      refine JO.nil ?_
      refine J.ret rfl rfl ?_
      have hv : ixV lay rs ((j : Nat) : Int) = (ixL (isC lay) (ixD rs j), 0) := by
        unfold ixV; rw [if_neg (not_not_intro h17'), if_neg hib]
        show (((ordL (isC lay) rs)[j]?).getD [], (0 : Int)) = _
        have h8 : (idx (tuL (isC lay) rs))[j]? = some (ixD rs j) := by rw [← ixD_get hjl, isC_f hs]; rfl
        unfold ordL; rw [List.getElem?_map, h8]; rfl
      refine ⟨_, _, ⟨a31, c31, rfl, rfl⟩, by rw [hv, ixL_len]; rfl, fun h s => ?_⟩
      rw [hv]; exact SubC.out h s

theorem lIndex_col {L : List Asn} {lay : ByteArray} {a : Option Addr} {n cap : Nat} {rs : List Rg} {i : Int} [SlIn rgE L a rs] (hn : n = rs.length) (hs : lay = colS) :
    CallS Try.prog 72 [.string lay, .agg #[.slice a n cap], .int .i64 i].toArray L (fun v M => ∃ a' c', v = .tuple #[.slice a' (ixV lay rs i).1.length c', .int .i64 (ixV lay rs i).2] ∧ M = sl intE a' c' (ixV lay rs i).1 :: L) := by
  subst hn
  refine CallS.ent ?_
  refine CallS.enter Try.func72 rfl rfl rfl rfl rfl ?_
  refine J.seq rfl ?_
  refine J.region rfl ?_
  refine JO.eff rfl rfl rfl (Eff.box (cs := [_]) rfl rfl) ?_
  rintro _ _ ⟨b4, rfl, rfl⟩
  refine JO.pur rfl rfl rfl (Pur.assign rfl) ?_
  refine JO.pur rfl rfl rfl (Pur.assign rfl) ?_
  refine JO.nil ?_
  refine J.seq rfl ?_
  refine J.seq rfl ?_
  refine J.region rfl ?_
  refine JO.pur rfl rfl rfl (Pur.move rfl) ?_
  refine JO.eff rfl rfl rfl (Eff.buildSlice stE [lay] rfl rfl rfl rfl rfl rfl rfl) ?_
  rintro _ _ ⟨b12, rfl, -, rfl⟩
  refine JO.pur rfl rfl rfl (Pur.loadA rfl rfl rfl CellsIn.blk) ?_
  refine JO.eff rfl rfl rfl (Eff.buildSlice domE [⟨a, rs.length, cap⟩] rfl rfl rfl rfl rfl rfl rfl) ?_
  rintro _ _ ⟨b14, rfl, -, rfl⟩
  refine JO.effR rfl rfl rfl (Eff.call rfl (lAsked (ss := [lay]) (hds := [⟨a, rs.length, cap⟩]) (ds := [rs]) rfl rfl rfl (by simp) (by simp) (hsl1 rfl))) ?_
  rw [ask1_eq]
  refine JO.pur rfl rfl rfl (Pur.assign rfl) ?_
  refine JO.nil ?_
  refine J.seq rfl ?_
  refine J.region rfl ?_
  refine JO.pur rfl rfl rfl (Pur.move rfl) ?_
  refine JO.pur rfl rfl rfl (Pur.neqI rfl rfl) ?_
  refine JO.nil ?_
  refine J.splitB 17 rfl (fun h17 => ?_) (fun h17 => ?_)
  · try simp only [decide_eq_true_eq, decide_eq_false_iff_not, Bool.not_eq_true', Bool.not_eq_false', Bool.and_eq_true, Bool.or_eq_true, Bool.and_eq_false_iff, Bool.or_eq_false_iff, Option.isNone_some, Option.isSome_some, Option.isNone_none, Option.isSome_none, Int.not_lt, Int.not_le, beq_iff_eq, beq_eq_false_iff_ne, bne_iff_ne, ne_eq, Bool.not_not, Decidable.not_not] at h17
    have h17' : ask1 lay rs ≠ 0 := h17
    refine J.condT rfl rfl ?_
    refine J.seq rfl ?_
    refine J.region rfl ?_
    refine JO.pur rfl rfl rfl (Pur.move rfl) ?_
    refine JO.pur rfl rfl rfl (Pur.assign rfl) ?_
    refine JO.pur rfl rfl rfl (Pur.assign rfl) ?_
    refine JO.nil ?_
    refine J.ret rfl rfl ?_
    have hv : ixV lay rs i = ([], ask1 lay rs) := by unfold ixV; rw [if_pos h17']
    refine ⟨_, _, ⟨none, 0, rfl, rfl⟩, by rw [hv]; rfl, fun h s => ?_⟩
    rw [hv]; exact sl_nil_new (SubC.out h s)
  · try simp only [decide_eq_true_eq, decide_eq_false_iff_not, Bool.not_eq_true', Bool.not_eq_false', Bool.and_eq_true, Bool.or_eq_true, Bool.and_eq_false_iff, Bool.or_eq_false_iff, Option.isNone_some, Option.isSome_some, Option.isNone_none, Option.isSome_none, Int.not_lt, Int.not_le, beq_iff_eq, beq_eq_false_iff_ne, bne_iff_ne, ne_eq, Bool.not_not, Decidable.not_not] at h17
    have h17' : ask1 lay rs = 0 := by simpa using h17
    obtain ⟨g1, g2⟩ := ask1_ok h17'
    have hcc : cntD (canD rs).reverse = cntD rs := (by rw [cntD_rev]; exact canD_cnt g2.2.2.1 (okD_ne g2))
    have hg2 : okD (canD rs).reverse := col_ok g2
    refine J.condF rfl rfl ?_
    refine J.skip rfl ?_
    refine J.seq rfl ?_
    refine J.region rfl ?_
    refine JO.pur rfl rfl rfl (Pur.move rfl) ?_
    refine JO.pur rfl rfl rfl (Pur.loadA rfl rfl rfl CellsIn.blk) ?_
    refine JO.eff rfl rfl rfl (Eff.call rfl (turned_col (rs := rs) rfl hs g2)) ?_
    rintro _ _ ⟨a22, c22, rfl, rfl⟩
    refine JO.pur rfl rfl rfl (Pur.move rfl) ?_
    refine JO.eff rfl rfl rfl (Eff.call rfl (d_Ith (rs := (canD rs).reverse) (i := i) (by rw [List.length_reverse, canD_len]))) ?_
    rintro _ _ ⟨a24, c24, rfl, rfl⟩
    refine JO.pur rfl rfl rfl (Pur.move rfl) ?_
    refine JO.pur rfl rfl rfl (Pur.extract rfl rfl) ?_
    refine JO.pur rfl rfl rfl (Pur.extract rfl rfl) ?_
    refine JO.setv (u' := .int .i64 (ithV (canD rs).reverse i).2) 26 rfl rfl ?_
    refine JO.pur rfl rfl rfl (Pur.assign rfl) ?_
    refine JO.pur rfl rfl rfl (Pur.assign rfl) ?_
    refine JO.nil ?_
    refine J.seq rfl ?_
    refine J.seq rfl ?_
    refine J.region rfl ?_
    refine JO.pur rfl rfl rfl (Pur.move rfl) ?_
    refine JO.pur rfl rfl rfl (Pur.neqI rfl rfl) ?_
    refine JO.nil ?_
    refine J.splitB 28 rfl (fun h28 => ?_) (fun h28 => ?_)
    · try simp only [decide_eq_true_eq, decide_eq_false_iff_not, Bool.not_eq_true', Bool.not_eq_false', Bool.and_eq_true, Bool.or_eq_true, Bool.and_eq_false_iff, Bool.or_eq_false_iff, Option.isNone_some, Option.isSome_some, Option.isNone_none, Option.isSome_none, Int.not_lt, Int.not_le, beq_iff_eq, beq_eq_false_iff_ne, bne_iff_ne, ne_eq, Bool.not_not, Decidable.not_not] at h28
      have hib : i < 0 ∨ (cntD rs : Int) ≤ i := by
        refine Classical.byContradiction fun g => h28 ?_
        unfold ithV; rw [if_neg (not_not_intro hg2), if_neg (by rw [hcc]; exact g)]
      refine J.condT rfl rfl ?_
      refine J.seq rfl ?_
      refine J.region rfl ?_
      refine JO.pur rfl rfl rfl (Pur.assign rfl) ?_
      refine JO.pur rfl rfl rfl (Pur.assign rfl) ?_
      refine JO.nil ?_
      refine J.ret rfl rfl ?_
      have hv : ixV lay rs i = ([], 2) := by unfold ixV; rw [if_neg (not_not_intro h17'), if_pos hib]
      refine ⟨_, _, ⟨none, 0, rfl, rfl⟩, by rw [hv]; rfl, fun h s => ?_⟩
      rw [hv]; exact sl_nil_new (SubC.out h s)
    · try simp only [decide_eq_true_eq, decide_eq_false_iff_not, Bool.not_eq_true', Bool.not_eq_false', Bool.and_eq_true, Bool.or_eq_true, Bool.and_eq_false_iff, Bool.or_eq_false_iff, Option.isNone_some, Option.isSome_some, Option.isNone_none, Option.isSome_none, Int.not_lt, Int.not_le, beq_iff_eq, beq_eq_false_iff_ne, bne_iff_ne, ne_eq, Bool.not_not, Decidable.not_not] at h28
      have hib : ¬ (i < 0 ∨ (cntD rs : Int) ≤ i) := fun g => by
        have h9 : (ithV (canD rs).reverse i).2 = 2 := by unfold ithV; rw [if_neg (not_not_intro hg2), if_pos (by rw [hcc]; exact g)]
        rw [h9] at h28; exact absurd h28 (by decide)
      obtain ⟨j, hj⟩ : ∃ j : Nat, i = (j : Int) := ⟨i.toNat, by omega⟩
      subst hj
      have hjl : j < cntD (canD rs).reverse := by rw [hcc]; omega
      have hv1 : ithV (canD rs).reverse ((j : Nat) : Int) = (ixD (canD rs).reverse j, 0) := by unfold ithV; rw [if_neg (not_not_intro hg2), if_neg (by rw [hcc]; exact hib)]; rfl
      rw [hv1]
      have hxl := ixD_len hjl
      have hll : (canD rs).reverse.length ≤ 3 := hg2.2.1
      refine J.fact (fun h s => SlH.nil (a := a24) (cap := c24) (E := intE) (xs := ixD (canD rs).reverse j) s) fun hnl => ?_
      have hnl2 : a24 = none → (ixD (canD rs).reverse j).length = 0 ∧ c24 = 0 := fun e => by obtain ⟨e1, e2⟩ := hnl e; exact ⟨by rw [e1]; rfl, e2⟩
      refine J.condF rfl rfl ?_
      refine J.skip rfl ?_
      refine J.seq rfl ?_
      refine J.region rfl ?_
      refine JO.pur rfl rfl rfl (Pur.move rfl) ?_
      refine JO.pur rfl rfl rfl (Pur.move rfl) ?_
      refine JO.eff rfl rfl rfl (Eff.call rfl (lindex (lay := lay) (x := ixD (canD rs).reverse j) rfl (by omega) hnl2)) ?_
      rintro _ _ ⟨a31, c31, rfl, rfl⟩
      refine JO.pur rfl rfl rfl (Pur.assign rfl) ?_
      refine JO.pur rfl rfl rfl (Pur.assign rfl) ?_
      refine JO.nil ?_
      refine J.ret rfl rfl ?_
      have hv : ixV lay rs ((j : Nat) : Int) = (ixL (isC lay) (ixD (canD rs).reverse j), 0) := by
        unfold ixV; rw [if_neg (not_not_intro h17'), if_neg hib]
        show (((ordL (isC lay) rs)[j]?).getD [], (0 : Int)) = _
        have h8 : (idx (tuL (isC lay) rs))[j]? = some (ixD (canD rs).reverse j) := by rw [← ixD_get hjl, isC_t hs]; rw [col_idx g2]; rfl
        unfold ordL; rw [List.getElem?_map, h8]; rfl
      refine ⟨_, _, ⟨a31, c31, rfl, rfl⟩, by rw [hv, ixL_len]; rfl, fun h s => ?_⟩
      rw [hv]; exact SubC.out h s

theorem lIndex {L : List Asn} {lay : ByteArray} {a : Option Addr} {n cap : Nat} {rs : List Rg} {i : Int} [SlIn rgE L a rs] (hn : n = rs.length) : CallS Try.prog 72 [.string lay, .agg #[.slice a n cap], .int .i64 i].toArray L (fun v M => ∃ a' c', v = .tuple #[.slice a' (ixV lay rs i).1.length c', .int .i64 (ixV lay rs i).2] ∧ M = sl intE a' c' (ixV lay rs i).1 :: L) := by
  by_cases hs : lay = colS
  · exact lIndex_col hn hs
  · exact lIndex_row hn hs
end Go.Proofs.Ytnhippfllgnngaa
