/-
  A part of the proof of the claim that this folder bears.
-/
import Derived.Test.YtnhippfllgnngaaPAK
import Derived.Test.YtnhippfllgnngaaPAL
import Derived.Test.YtnhippfllgnngaaPAJ
import Derived.Test.YtnhippfllgnngaaPAA
import Derived.Test.YtnhippfllgnngaaKC
/- The text SpPlainE. -/
set_option linter.unusedVariables false
set_option linter.unusedSimpArgs false
namespace Go.Proofs.Ytnhippfllgnngaa
open Go Go.KK Dm
theorem ascI_unique : ∀ {a b : List Int}, a.Pairwise (· < ·) → b.Pairwise (· < ·) → (∀ n, n ∈ a ↔ n ∈ b) → a = b
  | [], [], _, _, _ => rfl
  | [], y :: b, _, _, h => by have := (h y).2 List.mem_cons_self; cases this
  | x :: a, [], _, _, h => by have := (h x).1 List.mem_cons_self; cases this
  | x :: a, y :: b, ha, hb, h => by
    obtain ⟨a1, a2⟩ := List.pairwise_cons.1 ha
    obtain ⟨b1, b2⟩ := List.pairwise_cons.1 hb
    have hxy : x = y := by
      rcases List.mem_cons.1 ((h x).1 List.mem_cons_self) with e | e
      · exact e
      · rcases List.mem_cons.1 ((h y).2 List.mem_cons_self) with e2 | e2
        · exact e2.symm
        · have := b1 x e; have := a1 y e2; omega
    subst hxy
    rw [ascI_unique a2 b2 fun n => ?_]
    constructor
    · intro hn
      rcases List.mem_cons.1 ((h n).1 (List.mem_cons_of_mem _ hn)) with e | e
      · subst e; have := a1 n hn; omega
      · exact e
    · intro hn
      rcases List.mem_cons.1 ((h n).2 (List.mem_cons_of_mem _ hn)) with e | e
      · subst e; have := b1 n hn; omega
      · exact e
theorem canR_idem {r : Rg} (h : okR r) : canR (canR r) = canR r := by
  by_cases h0 : cntI r = 0
  · have e : canR r = none3 := by unfold canR; rw [if_pos h0]
    rw [e]; rfl
  · have hn := cntI_nonneg h
    have hc : cnt r ≠ 0 := by unfold cnt; omega
    obtain ⟨h1, h2, h3⟩ := canR_same h hc
    by_cases h4 : cntI r = 1
    · have e : canR (canR r) = ⟨fst (canR r), fst (canR r), 1⟩ := by
        conv => lhs; unfold canR
        rw [if_neg (by rw [show (if cntI r = 0 then none3 else if cntI r = 1 then (⟨fst r, fst r, 1⟩ : Rg) else ⟨min (fst r) (lastR r), max (fst r) (lastR r), r.st⟩) = canR r from rfl, h1]; exact h0), if_pos (by rw [show (if cntI r = 0 then none3 else if cntI r = 1 then (⟨fst r, fst r, 1⟩ : Rg) else ⟨min (fst r) (lastR r), max (fst r) (lastR r), r.st⟩) = canR r from rfl, h1]; exact h4)]
        rfl
      rw [e, h2]
      unfold canR; rw [if_neg h0, if_pos h4]
    · have hst := h3 h4
      have hl : lastR (canR r) = lastR r := by unfold lastR atR; rw [h1, h2, hst]
      have e : canR (canR r) = ⟨min (fst (canR r)) (lastR (canR r)), max (fst (canR r)) (lastR (canR r)), (canR r).st⟩ := by
        generalize canR r = c at h1 ⊢
        unfold canR
        rw [if_neg (by rw [h1]; exact h0), if_neg (by rw [h1]; exact h4)]
      rw [e, h2, hl, hst]
      unfold canR; rw [if_neg h0, if_neg h4]
theorem canD_idem {d : List Rg} (h : okRs d) (hne : d ≠ []) : canD (canD d) = canD d := by
  by_cases h0 : cntD d = 0
  · have e : canD d = d.map fun _ => none3 := if_pos h0
    rw [e]
    have h1 : cntD (d.map fun _ => none3) = 0 := by
      cases d with
      | nil => exact absurd rfl hne
      | cons r d => rw [List.map_cons, cntD_cons, none3_cnt, Nat.zero_mul]
    unfold canD
    rw [if_pos h1, List.map_map]; rfl
  · have e : canD d = d.map canR := if_neg h0
    have hidem : (d.map canR).map canR = d.map canR := by
      rw [List.map_map]; exact List.map_congr_left fun r hr => canR_idem (h r hr)
    have hz : ∀ {l : List Rg}, (∀ r ∈ l, okR r) → (∀ r ∈ l, cnt r ≠ 0) → cntD (l.map canR) = cntD l := by
      intro l
      induction l with
      | nil => intro _ _; rfl
      | cons r l ih =>
        intro ho hc
        rw [List.map_cons, cntD_cons, cntD_cons, ih (fun q hq => ho q (List.mem_cons_of_mem _ hq)) (fun q hq => hc q (List.mem_cons_of_mem _ hq))]
        obtain ⟨h1, -, -⟩ := canR_same (ho r List.mem_cons_self) (hc r List.mem_cons_self)
        unfold cnt; rw [h1]
    have hnz : ∀ {l : List Rg}, cntD l ≠ 0 → ∀ r ∈ l, cnt r ≠ 0 := by
      intro l
      induction l with
      | nil => intro _ r hr; cases hr
      | cons q l ih =>
        intro hl r hr g
        rw [cntD_cons] at hl
        rcases List.mem_cons.1 hr with e | hr
        · subst e; rw [g, Nat.zero_mul] at hl; exact hl rfl
        · exact ih (fun g2 => hl (by rw [g2, Nat.mul_zero])) r hr g
    rw [e]
    unfold canD
    rw [if_neg (by rw [hz h (hnz h0)]; exact h0), hidem]
theorem tr_facts {rs : List Rg} (h : okD rs) : trD rs = (canD rs).reverse ∧ trD rs = canD rs.reverse ∧ okD (trD rs) ∧ (trD rs).length = rs.length ∧ canD (trD rs) = trD rs := by
  have e : trD rs = (canD rs).reverse := if_pos h
  have hne : rs ≠ [] := fun g => by have := h.1; rw [g] at this; simp at this
  have hl : (trD rs).length = rs.length := by rw [e, List.length_reverse, canD_len]
  refine ⟨e, by rw [e, canD_rev], by rw [e]; exact okD_rev.2 (canD_okD h), hl, ?_⟩
  rw [e, canD_rev, canD_idem h.2.2.1 hne]
theorem plK_some {d : List Rg} {x : List Int} : ∀ {k : Nat}, (plK d x k).isSome = true ↔ ∀ j, j < k → (plR (d.getD j default) (x.getD j default)).isSome = true
  | 0 => by simp [plK]
  | k + 1 => by
    have ih := plK_some (d := d) (x := x) (k := k)
    constructor
    · intro hs j hj
      unfold plK at hs
      cases e1 : plK d x k with
      | none => rw [e1] at hs; simp at hs
      | some a =>
        cases e2 : plR (d.getD k default) (x.getD k default) with
        | none => rw [e1, e2] at hs; simp at hs
        | some i =>
          by_cases e : j = k
          · subst e; rw [e2]; rfl
          · exact ih.1 (by rw [e1]; rfl) j (by omega)
    · intro hall
      obtain ⟨a, ha⟩ := Option.isSome_iff_exists.1 (ih.2 fun j hj => hall j (by omega))
      obtain ⟨i, hi⟩ := Option.isSome_iff_exists.1 (hall k (by omega))
      unfold plK; rw [ha, hi]; rfl
theorem plD_some_len {d : List Rg} {x : List Int} (h : (plD d x).isSome = true) : x.length = d.length := by
  unfold plD at h
  by_cases e : x.length = d.length
  · exact e
  · rw [if_neg e] at h; cases h
theorem tr_some {rs : List Rg} {x : List Int} (h : okD rs) (hx : (plD rs x).isSome = true) : (plD (trD rs) x.reverse).isSome = true := by
  obtain ⟨e1, -, -, hl, -⟩ := tr_facts h
  have hxl := plD_some_len hx
  unfold plD
  rw [if_pos (by rw [List.length_reverse, hl, hxl]), plK_some]
  intro j hj
  rw [hl] at hj
  rw [e1, getD_rev (by rw [canD_len]; exact hj), getD_rev (by rw [hxl]; exact hj), canD_len, hxl]
  obtain ⟨i, e, -, -⟩ := mem_one h hx (k := rs.length - 1 - j) (by omega)
  have e' : plR ((canD rs).getD (rs.length - 1 - j) default) (x.getD (rs.length - 1 - j) default) = some i := e
  rw [e']; rfl
def trnL (rs : List Rg) (xss : List (List Int)) : List (List Int) := madeL (trD rs) ((xss.map List.reverse).map (atS (trD rs)))
theorem trn_made {rs : List Rg} {xss yss : List (List Int)} (h : okS rs xss) (hp : yss.Perm (xss.map List.reverse)) (hs : yss.Pairwise fun x y => atS (trD rs) x ≤ atS (trD rs) y) : trnL rs xss = yss ∧ (∀ y ∈ yss, (plD (trD rs) y).isSome = true) ∧ yss.Pairwise fun x y => atS (trD rs) x < atS (trD rs) y := by
  obtain ⟨e1, e2, hok, hl, hid⟩ := tr_facts h.1
  have hsome : ∀ y ∈ yss, (plD (trD rs) y).isSome = true := fun y hy => by
    obtain ⟨x, hx, rfl⟩ := List.mem_map.1 (hp.mem_iff.1 hy)
    exact tr_some h.1 (okS_some h hx)
  have hnd : yss.Pairwise fun x y => x ≠ y := by
    have h0 : xss.Pairwise fun x y => x ≠ y := (okS_pw h).imp fun {a b} g e => by rw [e] at g; omega
    have h1 : (xss.map List.reverse).Pairwise fun x y => x ≠ y := by
      rw [List.pairwise_map]
      exact h0.imp fun {a b} g e => g (by have := congrArg List.reverse e; simpa using this)
    exact (hp.pairwise_iff (fun {a b} g e => g e.symm)).2 h1
  have hlt : yss.Pairwise fun x y => atS (trD rs) x < atS (trD rs) y := by
    have := hs.and hnd
    refine this.imp_of_mem ?_
    intro a b ha hb ⟨g1, g2⟩
    have : atS (trD rs) a ≠ atS (trD rs) b := fun e => g2 (atS_inj hok.2.2.1 (hsome a ha) (hsome b hb) e)
    omega
  refine ⟨?_, hsome, hlt⟩
  unfold trnL
  rw [← made_of hok hsome hlt]
  exact made_congr fun t => ((hp.map _).mem_iff).symm
theorem okS_of {rs : List Rg} {xss : List (List Int)} (h1 : okD rs) (h2 : xss.length ≤ 400) (h3 : ∀ y ∈ xss, (plD rs y).isSome = true) (h4 : xss.Pairwise fun x y => atS rs x < atS rs y) : okS rs xss := by
  refine (okS_iff h1 h2).2 ⟨fun x hx => (plV_ok h1 x).1.2 (h3 x hx), fun j hj hl => ?_⟩
  rw [List.pairwise_iff_getElem] at h4
  have := h4 (j - 1) j (by omega) hl (by omega)
  rwa [List.getD_eq_getElem?_getD, List.getD_eq_getElem?_getD, List.getElem?_eq_getElem (by omega : j - 1 < xss.length), List.getElem?_eq_getElem hl]
theorem trn_ex {rs : List Rg} {xss : List (List Int)} (h : okS rs xss) : (trnL rs xss).Perm (xss.map List.reverse) ∧ okS (trD rs) (trnL rs xss) := by
  obtain ⟨e1, e2, hok, hl, hid⟩ := tr_facts h.1
  have hp := List.mergeSort_perm (xss.map List.reverse) (fun a b => decide (atS (trD rs) a ≤ atS (trD rs) b))
  have hs := List.pairwise_mergeSort (le := fun a b => decide (atS (trD rs) a ≤ atS (trD rs) b)) (fun a b c g1 g2 => by simp at g1 g2 ⊢; omega) (fun a b => by simp; omega) (xss.map List.reverse)
  obtain ⟨q1, q2, q3⟩ := trn_made h hp (hs.imp fun {a b} g => of_decide_eq_true g)
  rw [q1]
  exact ⟨hp, okS_of hok (by rw [hp.length_eq, List.length_map]; exact h.2.1) q2 q3⟩
end Go.Proofs.Ytnhippfllgnngaa

/- The text SpPlainF. -/
set_option linter.unusedVariables false
set_option linter.unusedSimpArgs false
namespace Go.Proofs.Ytnhippfllgnngaa
open Go Go.KK Dm
theorem pick_tab (d : List Rg) (xss : List (List Int)) (w k : Nat) : pickP (tabL d xss) w k = (xss.filter fun x => decide (nthP w (memS d 0 (x.getD 0 0), memS d 1 (x.getD 1 0)) = (k : Int))).map fun x => nthP (1 - w) (memS d 0 (x.getD 0 0), memS d 1 (x.getD 1 0)) := by
  unfold pickP tabL
  rw [List.filter_map, List.map_map]; rfl
theorem one_rev {rs : List Rg} (hl : rs.length = 2) : oneR (canD rs).reverse 0 = oneR (canD rs) 1 ∧ oneR (canD rs).reverse 1 = oneR (canD rs) 0 := by
  have h := canD_len rs
  unfold oneR
  rw [getD_rev (by omega), getD_rev (by omega), h, hl]
  exact ⟨rfl, rfl⟩
theorem rev_two {x : List Int} (h : x.length = 2) : x.reverse.getD 0 0 = x.getD 1 0 ∧ x.reverse.getD 1 0 = x.getD 0 0 := by
  match x, h with
  | [a, b], _ => exact ⟨rfl, rfl⟩
theorem picks_eq {rs : List Rg} {xss : List (List Int)} (h : okS rs xss) (hl : rs.length = 2) (k : Nat) : pickP (tabL (canD (trD rs)) (trnL rs xss)) 0 k = pickP (tabL (canD rs) xss) 1 k := by
  obtain ⟨e1, e2, hok, hl2, hid⟩ := tr_facts h.1
  obtain ⟨hp, hT⟩ := trn_ex h
  obtain ⟨o1, o2⟩ := one_rev hl
  have m0 : ∀ z, memS (canD (trD rs)) 0 z = memS (canD rs) 1 z := fun z => by unfold memS; rw [hid, e1, o1]
  have m1 : ∀ z, memS (canD (trD rs)) 1 z = memS (canD rs) 0 z := fun z => by unfold memS; rw [hid, e1, o2]
  rw [pick_tab, pick_tab]
  refine ascI_unique ?_ ?_ fun n => ?_
  · rw [List.pairwise_map]
    refine ((okS_pw hT).filter _).imp_of_mem ?_
    intro a b ha hb hlt
    have ha1 := List.mem_filter.1 ha
    have hb1 := List.mem_filter.1 hb
    obtain ⟨i, j, p0, p1, l0, l1, e⟩ := at_rc hT.1 (by rw [hl2]; exact hl) (okS_some hT ha1.1)
    obtain ⟨i', j', p0', p1', l0', l1', e'⟩ := at_rc hT.1 (by rw [hl2]; exact hl) (okS_some hT hb1.1)
    have ka := of_decide_eq_true ha1.2
    have kb := of_decide_eq_true hb1.2
    simp only [nthP, if_true, Nat.sub_zero] at ka kb ⊢
    rw [p0] at ka
    rw [p0'] at kb
    have : i = i' := by omega
    subst this
    rw [e, e'] at hlt
    show (if (1 : Nat) = 0 then _ else memS (canD (trD rs)) 1 (a.getD 1 0)) < (if (1 : Nat) = 0 then _ else memS (canD (trD rs)) 1 (b.getD 1 0))
    rw [if_neg (by decide), if_neg (by decide), p1, p1']
    omega
  · rw [List.pairwise_map]
    refine ((okS_pw h).filter _).imp_of_mem ?_
    intro a b ha hb hlt
    have ha1 := List.mem_filter.1 ha
    have hb1 := List.mem_filter.1 hb
    obtain ⟨i, j, p0, p1, l0, l1, e⟩ := at_rc h.1 hl (okS_some h ha1.1)
    obtain ⟨i', j', p0', p1', l0', l1', e'⟩ := at_rc h.1 hl (okS_some h hb1.1)
    have ka := of_decide_eq_true ha1.2
    have kb := of_decide_eq_true hb1.2
    simp only [nthP] at ka kb ⊢
    rw [if_neg (by decide), p1] at ka
    rw [if_neg (by decide), p1'] at kb
    have : j = j' := by omega
    subst this
    rw [e, e'] at hlt
    rw [if_pos (by decide), if_pos (by decide), p0, p0']
    have h5 : i * cnt ((canD rs).getD 1 default) < i' * cnt ((canD rs).getD 1 default) := by omega
    have := Nat.lt_of_mul_lt_mul_right h5
    omega
  · constructor
    · intro hn
      obtain ⟨y, hy, rfl⟩ := List.mem_map.1 hn
      obtain ⟨hy1, hy2⟩ := List.mem_filter.1 hy
      obtain ⟨x, hx, rfl⟩ := List.mem_map.1 (hp.mem_iff.1 hy1)
      obtain ⟨r1, r2⟩ := rev_two (by rw [okS_len h hx]; exact hl)
      have := of_decide_eq_true hy2
      refine List.mem_map.2 ⟨x, List.mem_filter.2 ⟨hx, decide_eq_true ?_⟩, ?_⟩
      · rw [r1, m0] at this; exact this
      · show (memS (canD rs) 0 (x.getD 0 0)) = memS (canD (trD rs)) 1 (x.reverse.getD 1 0)
        rw [r2, m1]
    · intro hn
      obtain ⟨x, hx, rfl⟩ := List.mem_map.1 hn
      obtain ⟨hx1, hx2⟩ := List.mem_filter.1 hx
      obtain ⟨r1, r2⟩ := rev_two (by rw [okS_len h hx1]; exact hl)
      have := of_decide_eq_true hx2
      refine List.mem_map.2 ⟨x.reverse, List.mem_filter.2 ⟨hp.mem_iff.2 (List.mem_map.2 ⟨x, hx1, rfl⟩), decide_eq_true ?_⟩, ?_⟩
      · show memS (canD (trD rs)) 0 (x.reverse.getD 0 0) = (k : Int)
        rw [r1, m0]; exact this
      · show memS (canD (trD rs)) 1 (x.reverse.getD 1 0) = memS (canD rs) 0 (x.getD 0 0)
        rw [r2, m1]
theorem cols_eq {rs : List Rg} {xss : List (List Int)} (h : okS rs xss) (hl : rs.length = 2) {C : Nat} (hC : ctV (oneR (canD rs) 1) = (C : Int)) : rowsV (trD rs) (trnL rs xss) = (stsK (tabL (canD rs) xss) 1 C, othK (tabL (canD rs) xss) 1 C, 0) := by
  obtain ⟨e1, e2, hok, hl2, hid⟩ := tr_facts h.1
  obtain ⟨hp, hT⟩ := trn_ex h
  rw [rowsV_eq hT (by rw [hl2]; exact hl) (R := C) (by rw [hid, e1, (one_rev hl).1]; exact hC)]
  have ho : ∀ k, othK (tabL (canD (trD rs)) (trnL rs xss)) 0 k = othK (tabL (canD rs) xss) 1 k := fun k => by
    unfold othK
    rw [List.flatMap_def, List.flatMap_def]
    congr 1
    exact List.map_congr_left fun i _ => picks_eq h hl i
  have hs : stsK (tabL (canD (trD rs)) (trnL rs xss)) 0 C = stsK (tabL (canD rs) xss) 1 C := by
    unfold stsK
    exact List.map_congr_left fun i _ => by rw [ho]
  rw [ho, hs]
/-- The dimensions exchanged. -/
def trnS (rs : List Rg) (xss : List (List Int)) : SpRn := if ¬ okS rs xss then (([], []), 50) else ((trD rs, trnL rs xss), 0)
/-- Compressed by columns. -/
def colsV (rs : List Rg) (xss : List (List Int)) : List Int × List Int × Int := if ¬ okS rs xss then ([], [], 50) else if rs.length ≠ 2 then ([], [], 2) else rowsV (trD rs) (trnL rs xss)
/-- What is compressed by rows comes back. -/
theorem back_frm {rs : List Rg} {xss : List (List Int)} (h : okS rs xss) (hl : rs.length = 2) : frmS rs (rowsV rs xss).1 (rowsV rs xss).2.1 = ((rs, xss), 0) := by
  obtain ⟨-, hc0, hb0⟩ := one_ok h.1 (k := 0) (by omega)
  rw [rowsV_eq h hl hc0]
  dsimp only
  rw [oth_col h hl rfl]
  obtain ⟨g1, g2, g3⟩ := rows_from h hl rfl
  unfold frmS
  rw [if_neg (not_not_intro h.1), if_neg (not_not_intro hl), if_neg (not_not_intro ⟨g1, g2, by rw [g3]; exact h⟩), g3]
end Go.Proofs.Ytnhippfllgnngaa

/- The text SM8. -/
set_option linter.unusedVariables false
set_option linter.unusedSimpArgs false
set_option maxRecDepth 10000
namespace Go.Proofs.Ytnhippfllgnngaa
open Go Go.KK Dm

theorem s_Transpose {L : List Asn} {a la : Option Addr} {n cap ln lc : Nat} {rs : List Rg} {hs : List Hdr} {xss : List (List Int)} [SlIn rgE L a rs] [SlIn hE L la hs] [RowsR intE L hs xss] (hn : n = rs.length) (hl : ln = hs.length) :
    CallS Try.prog 43 [.agg #[.slice a n cap, .slice la ln lc]].toArray L (fun w M => ∃ pa pc qa qc hs', w = .tuple #[.agg #[.slice pa (trnS rs xss).1.1.length pc, .slice qa (trnS rs xss).1.2.length qc], .int .i64 (trnS rs xss).2] ∧ M = sl rgE pa pc (trnS rs xss).1.1 :: sl hE qa qc hs' :: rows intE hs' (trnS rs xss).1.2 :: L) := by
  subst hn
  subst hl
  refine CallS.fact (fun h s => RowsR.len (E := intE) (hs := hs) (xss := xss) s) fun hnn => ?_
  have hhl : hs.length = xss.length := rows_len hnn
  refine CallS.ent ?_
  refine CallS.enter Try.func43 rfl rfl rfl rfl rfl ?_
  refine J.seq rfl ?_
  refine J.region rfl ?_
  refine JO.eff rfl rfl rfl (Eff.box (cs := [_, _]) rfl rfl) ?_
  rintro _ _ ⟨b1, rfl, rfl⟩
  refine JO.eff rfl rfl rfl (Eff.alloc (cs := [_, _]) rfl) ?_
  rintro _ _ ⟨b2, rfl, rfl⟩
  refine JO.pur rfl rfl rfl (Pur.assign rfl) ?_
  refine JO.nil ?_
  refine J.seq rfl ?_
  refine J.seq rfl ?_
  refine J.region rfl ?_
  refine JO.pur rfl rfl rfl (Pur.loadA rfl rfl rfl CellsIn.blk) ?_
  refine JO.effR rfl rfl rfl (Eff.call rfl (s_Valid (rs := rs) (hs := hs) (xss := xss) rfl rfl)) ?_
  refine JO.pur rfl rfl rfl (Pur.not rfl) ?_
  refine JO.nil ?_
  refine J.splitB 14 rfl (fun h14 => ?_) (fun h14 => ?_)
  · try simp only [decide_eq_true_eq, decide_eq_false_iff_not, Bool.not_eq_true', Bool.not_eq_false', Bool.and_eq_true, Bool.or_eq_true, Bool.and_eq_false_iff, Bool.or_eq_false_iff, Option.isNone_some, Option.isSome_some, Option.isNone_none, Option.isSome_none, Int.not_lt, Int.not_le, beq_iff_eq, beq_eq_false_iff_ne, bne_iff_ne, ne_eq, Bool.not_not, Decidable.not_not] at h14
    have hns : ¬ okS rs xss := h14
    refine J.condT rfl rfl ?_
    refine J.seq rfl ?_
    refine J.region rfl ?_
    refine JO.pur rfl rfl rfl (Pur.build (cs := [_, _]) rfl rfl) ?_
    refine JO.effN rfl rfl (Eff.storeBA (cs' := [_, _]) rfl rfl (by rfl) (by rfl) (by rfl)) ?_
    rintro _ _ ⟨rfl, rfl⟩
    refine JO.pur rfl rfl rfl (Pur.assign rfl) ?_
    refine JO.nil ?_
    refine J.retC rfl (.cell rfl (ld_agg rfl CellsIn.blk) (.tmp rfl .nil)) ?_
    have hv : trnS rs xss = (([], []), 50) := if_pos hns
    refine ⟨_, _, ⟨none, 0, none, 0, [], rfl, rfl⟩, by rw [hv]; rfl, fun h s => ?_⟩
    rw [hv]; exact sl_nil_new (sl_nil_new (rows_nil (SubC.out h s)))
  · try simp only [decide_eq_true_eq, decide_eq_false_iff_not, Bool.not_eq_true', Bool.not_eq_false', Bool.and_eq_true, Bool.or_eq_true, Bool.and_eq_false_iff, Bool.or_eq_false_iff, Option.isNone_some, Option.isSome_some, Option.isNone_none, Option.isSome_none, Int.not_lt, Int.not_le, beq_iff_eq, beq_eq_false_iff_ne, bne_iff_ne, ne_eq, Bool.not_not, Decidable.not_not] at h14
    have hs0 : okS rs xss := h14
    obtain ⟨tr1, tr2, trk, trl, tri⟩ := tr_facts hs0.1
    have trl3 := trk.2.1
    have hxl4 := hs0.2.1
    have hrl : (xss.map List.reverse).length = xss.length := List.length_map _
    have hall : ∀ y ∈ xss.map List.reverse, (plD (trD rs) y).isSome = true := fun y hy => by obtain ⟨x, hx, rfl⟩ := List.mem_map.1 hy; exact tr_some hs0.1 (okS_some hs0 hx)
    refine J.condF rfl rfl ?_
    refine J.skip rfl ?_
    refine J.seq rfl ?_
    refine J.region rfl ?_
    refine JO.pur rfl rfl rfl (Pur.fieldAddr rfl) ?_
    refine JO.pur rfl rfl rfl (Pur.loadA rfl rfl rfl (CellsIn.sub1 rfl)) ?_
    refine JO.eff rfl rfl rfl (Eff.call rfl (d_Transpose (rs := rs) rfl)) ?_
    rintro _ _ ⟨a19, c19, rfl, rfl⟩
    refine JO.pur rfl rfl rfl (Pur.move rfl) ?_
    refine JO.pur rfl rfl rfl (Pur.extract rfl rfl) ?_
    refine JO.pur rfl rfl rfl (Pur.extract rfl rfl) ?_
    refine JO.eff rfl rfl rfl (Eff.alloc (cs := [_]) rfl) ?_
    rintro _ _ ⟨b4, rfl, rfl⟩
    refine JO.effN rfl rfl (Eff.storeBA (cs' := [_]) rfl rfl (by rfl) (by rfl) (by rfl)) ?_
    rintro _ _ ⟨rfl, rfl⟩
    refine JO.pur rfl rfl rfl (Pur.assign rfl) ?_
    refine JO.nil ?_
    refine J.seq rfl ?_
    refine J.region rfl ?_
    refine JO.pur rfl rfl rfl (Pur.assign rfl) ?_
    refine JO.nil ?_
    refine J.seq rfl ?_
    refine J.seq rfl ?_
    refine J.region rfl ?_
    refine JO.pur rfl rfl rfl (Pur.fieldAddr rfl) ?_
    refine JO.pur rfl rfl rfl (Pur.load rfl (CellIn.blk rfl)) ?_
    refine JO.pur rfl rfl rfl (Pur.len rfl) ?_
    refine JO.pur rfl rfl rfl (Pur.move rfl) ?_
    refine JO.nil ?_
    refine J.block rfl ?_
    refine J.loopF (ι := Nat × Option Addr × Nat × List Hdr) (fun q => q.1 ≤ xss.length ∧ q.2.2.2.length = q.1) (fun q => [(6, .slice q.2.1 q.1 q.2.2.1), (25, .int .i64 (q.1 : Int))]) [(2, _), (4, _), (23, _), (24, _)] (fun q => sl hE q.2.1 q.2.2.1 q.2.2.2 :: rows intE q.2.2.2 ((xss.take (q.1)).map List.reverse) :: blk b4 (.cells #[.slice a19 (trD rs).length c19] 24) :: sl rgE a19 c19 (trD rs) :: blk b2 (.cells #[.slice none 0 0, .slice none 0 0] 27) :: blk b1 (.cells #[.slice a rs.length cap, .slice la hs.length lc] 27) :: L) (fun q => xss.length - q.1) (0, none, 0, []) rfl (.cons rfl rfl (.cons rfl rfl (.cons rfl rfl (.cons rfl rfl .nil)))) (.cons rfl rfl (.cons rfl rfl .nil)) (fun h s => by have s2 := sl_nil_new (E := hE) (rows_nil (E := intE) s); dsimp only; rw [List.take_zero, List.map_nil]; exact SubC.out (L := sl hE none 0 [] :: rows intE [] [] :: _) h s2) ⟨Nat.zero_le _, rfl⟩ ?_
    rintro ⟨k, a6, c6, hs6⟩ ⟨hk, hh6⟩ ih0
    try dsimp only
    dsimp only at hk hh6
    refine J.seq rfl ?_
    refine J.region rfl ?_
    refine JO.pur rfl rfl rfl (Pur.lss rfl rfl) ?_
    refine JO.nil ?_
    refine J.seq rfl ?_
    refine J.splitB 26 rfl (fun h26 => ?_) (fun h26 => ?_)
    · try simp only [decide_eq_true_eq, decide_eq_false_iff_not, Bool.not_eq_true', Bool.not_eq_false', Bool.and_eq_true, Bool.or_eq_true, Bool.and_eq_false_iff, Bool.or_eq_false_iff, Option.isNone_some, Option.isSome_some, Option.isNone_none, Option.isSome_none, Int.not_lt, Int.not_le, beq_iff_eq, beq_eq_false_iff_ne, bne_iff_ne, ne_eq, Bool.not_not, Decidable.not_not] at h26
      have hkl : k < xss.length := by omega
      obtain ⟨x, hX⟩ : ∃ x, xss[k]? = some x := ⟨_, List.getElem?_eq_getElem (by omega)⟩
      obtain ⟨hd, hH⟩ : ∃ hd, hs[k]? = some hd := ⟨_, List.getElem?_eq_getElem (by omega)⟩
      have hdn := hdr_n hnn hH hX
      have hxm := List.mem_of_getElem? hX
      have hxg : xss.getD k [] = x := getD_of' hX
      have htk : xss.take (k + 1) = xss.take k ++ [x] := take_get hX
      have hxl := okS_len hs0 hxm
      have hr3 := hs0.1.2.1
      refine J.fact (fun h s => RowsR.fit (E := intE) (hs := hs) (xss := xss) s hH hX) fun hfit => ?_
      refine J.condT rfl rfl ?_
      refine J.skip rfl ?_
      refine J.seq rfl ?_
      refine J.block rfl ?_
      refine J.seq rfl ?_
      refine J.region rfl ?_
      refine JO.pur rfl rfl rfl (Pur.idx rfl rfl rfl (by first | rfl | (simp; done) | omega) rfl (by omega)) ?_
      refine JO.pur rfl rfl rfl (Pur.load rfl (CellIn.el0 rfl hH rfl)) ?_
      refine JO.setv (u' := .slice hd.a x.length hd.cap) 28 rfl (by rw [← hdn]) ?_
      refine JO.pur rfl rfl rfl (Pur.assign rfl) ?_
      refine JO.nil ?_
      refine J.seq rfl ?_
      refine J.region rfl ?_
      refine JO.pur rfl rfl rfl (Pur.move rfl) ?_
      refine JO.eff rfl rfl rfl (Eff.call rfl (@cloneI _ _ _ _ x (RowsR.row (E := intE) inferInstance hH hX) rfl (by omega) (fun e => by have := hfit.1 e; rw [hdn] at this; exact this))) ?_
      rintro _ _ ⟨a30, c30, ⟨rfl, -⟩, rfl⟩
      refine JO.pur rfl rfl rfl (Pur.assign rfl) ?_
      refine JO.nil ?_
      refine J.seq rfl ?_
      refine J.region rfl ?_
      refine JO.pur rfl rfl rfl (Pur.move rfl) ?_
      refine JO.eff rfl rfl rfl (Eff.call rfl (revI_ok (xs := x) rfl (by omega))) ?_
      rintro _ _ ⟨rfl, rfl⟩
      refine JO.nil ?_
      refine J.region rfl ?_
      refine JO.pur rfl rfl rfl (Pur.move rfl) ?_
      refine JO.pur rfl rfl rfl (Pur.move rfl) ?_
      refine JO.eff rfl rfl rfl (Eff.buildSlice hE [⟨a30, x.length, c30⟩] rfl rfl rfl rfl rfl rfl rfl) ?_
      rintro _ _ ⟨b35, rfl, -, rfl⟩
      refine JO.eff rfl rfl rfl (Eff.append rfl rfl rfl rfl (by first | rfl | omega | (simp; done) | (simp; omega)) (by first | rfl | omega | (simp; done) | (simp; omega)) (by decide) (by simp; omega) (by simp; omega) (fun h => by cases h)) ?_
      rintro _ _ ⟨a36, c36, rfl, rfl⟩
      refine JO.pur rfl rfl rfl (Pur.assign rfl) ?_
      refine JO.nil ?_
      refine J.inBlock ?_
      refine J.region rfl ?_
      refine JO.pur rfl rfl rfl (Pur.add rfl rfl (wr64 (by omega))) ?_
      refine JO.pur rfl rfl rfl (Pur.move rfl) ?_
      refine JO.nil ?_
      exact J.weaken (.cons rfl (by show Value.slice a36 _ c36 = Value.slice a36 (k + 1) c36; simp [hh6]) (.cons rfl (congrArg (Value.int .i64) (by first | rfl | (dsimp only; omega))) (.cons rfl rfl (.cons rfl rfl (.cons rfl rfl (.cons rfl rfl .nil)))))) (fun h s => by have s2 := snoc_row (E := intE) (a := a30) (n := x.length) (cap := c30) (xs := x.reverse) (hs := hs6) (xss := (xss.take k).map List.reverse) (by simp) s; dsimp only; rw [htk, List.map_append, List.map_singleton]; exact SubC.out h s2) (ih0 (k + 1, a36, c36, hs6 ++ [⟨a30, x.length, c30⟩]) ⟨by dsimp only; omega, by dsimp only; simp [hh6]⟩ (by dsimp only; omega))
    · try simp only [decide_eq_true_eq, decide_eq_false_iff_not, Bool.not_eq_true', Bool.not_eq_false', Bool.and_eq_true, Bool.or_eq_true, Bool.and_eq_false_iff, Bool.or_eq_false_iff, Option.isNone_some, Option.isSome_some, Option.isNone_none, Option.isSome_none, Int.not_lt, Int.not_le, beq_iff_eq, beq_eq_false_iff_ne, bne_iff_ne, ne_eq, Bool.not_not, Decidable.not_not] at h26
      have hke : k = xss.length := by omega
      subst hke
      rw [List.take_length]
      refine J.condF rfl rfl ?_
      refine J.exit rfl rfl ?_
      refine J.seq rfl ?_
      refine J.region rfl ?_
      refine JO.pur rfl rfl rfl (Pur.loadA rfl rfl rfl CellsIn.blk) ?_
      refine JO.pur rfl rfl rfl (Pur.move rfl) ?_
      refine JO.eff rfl rfl rfl (Eff.call rfl (s_places (rs := (trD rs)) (hs := hs6) (xss := (xss.map List.reverse)) rfl hh6.symm (by omega))) ?_
      rintro _ _ ⟨es, yss, a41, c41, rfl, rfl, hpl⟩
      refine JO.pur rfl rfl rfl (Pur.move rfl) ?_
      refine JO.pur rfl rfl rfl (Pur.extract rfl rfl) ?_
      refine JO.pur rfl rfl rfl (Pur.extract rfl rfl) ?_
      refine JO.pur rfl rfl rfl (Pur.assign rfl) ?_
      refine JO.pur rfl rfl rfl (Pur.assign rfl) ?_
      refine JO.nil ?_
      refine J.seq rfl ?_
      have hpv : (plcV (trD rs) (xss.map List.reverse)).2 = true := by rw [plcV_yes fun y hy => (plV_ok trk y).1.2 (hall y hy)]
      obtain ⟨he1, hp1, hsr⟩ := hpl hpv
      obtain ⟨hT1, -, -⟩ := trn_made hs0 hp1 (srt_pw (r := fun a b => a ≤ b) he1 hsr)
      have hel : es.length = yss.length := by have := congrArg List.length he1; simpa using this
      have hyl : yss.length = xss.length := by rw [hp1.length_eq, hrl]
      refine J.mask0 (n := 6) [4] rfl Try.mixed rfl (by kernel_rfl) ?_
      refine JM.take 0 (fun _ h => h) rfl (by kernel_rfl) rfl rfl rfl (m' := 1) rfl (Pur.loadA rfl rfl rfl CellsIn.blk) ?_
      refine JM.take 1 (fun _ h => h) rfl (by kernel_rfl) rfl rfl rfl (m' := 3) rfl (Pur.move rfl) ?_
      refine JM.one (i := 2) (by kernel_rfl) ?_
      refine JMi.eff rfl rfl rfl rfl (m' := 7) rfl (Eff.call rfl (list_ok (es := es) rfl (by omega))) ?_
      rintro _ _ ⟨a46, c46, rfl, rfl⟩
      refine ⟨.inr (fun _ h => h.tail), ?_⟩
      refine JM.take 3 (fun _ h => h.tail) rfl (by kernel_rfl) rfl rfl rfl (m' := 15) rfl (Pur.build (cs := [_, _]) rfl rfl) ?_
      refine JM.one (i := 4) (by kernel_rfl) ?_
      refine JMi.effN rfl rfl rfl (m' := 31) rfl (Eff.storeBA (cs' := [_, _]) rfl rfl (by rfl) (by rfl) (by rfl)) ?_
      rintro _ _ ⟨rfl, rfl⟩
      refine ⟨.inl (by simp), ?_⟩
      refine JM.takeF 5 (.inl (by kernel_rfl)) rfl (by kernel_rfl) rfl rfl rfl (m' := 63) rfl (Pur.assign rfl) ?_
      refine JM.done rfl ?_
      refine J.retC rfl (.cell rfl (ld_agg rfl CellsIn.blk) (.tmp rfl .nil)) ?_
      have hv : trnS rs xss = ((trD rs, yss), 0) := by unfold trnS; rw [if_neg (not_not_intro hs0), hT1]
      refine ⟨_, _, ⟨a19, c19, a46, c46, es.map (·.2), rfl, rfl⟩, by rw [hv]; dsimp only; rw [← hel]; rfl, fun h s => ?_⟩
      rw [hv]
      exact SubC.out h s

theorem s_Columns {L : List Asn} {a la : Option Addr} {n cap ln lc : Nat} {rs : List Rg} {hs : List Hdr} {xss : List (List Int)} [SlIn rgE L a rs] [SlIn hE L la hs] [RowsR intE L hs xss] (hn : n = rs.length) (hl : ln = hs.length) :
    CallS Try.prog 41 [.agg #[.slice a n cap, .slice la ln lc]].toArray L (fun v M => ∃ a' c' a'' c'', v = .tuple #[.slice a' (colsV rs xss).1.length c', .slice a'' (colsV rs xss).2.1.length c'', .int .i64 (colsV rs xss).2.2] ∧ M = sl intE a' c' (colsV rs xss).1 :: sl intE a'' c'' (colsV rs xss).2.1 :: L) := by
  subst hn
  subst hl
  refine CallS.fact (fun h s => RowsR.len (E := intE) (hs := hs) (xss := xss) s) fun hnn => ?_
  have hhl : hs.length = xss.length := rows_len hnn
  refine CallS.ent ?_
  refine CallS.enter Try.func41 rfl rfl rfl rfl rfl ?_
  refine J.seq rfl ?_
  refine J.region rfl ?_
  refine JO.eff rfl rfl rfl (Eff.box (cs := [_, _]) rfl rfl) ?_
  rintro _ _ ⟨b1, rfl, rfl⟩
  refine JO.pur rfl rfl rfl (Pur.assign rfl) ?_
  refine JO.pur rfl rfl rfl (Pur.assign rfl) ?_
  refine JO.pur rfl rfl rfl (Pur.assign rfl) ?_
  refine JO.nil ?_
  refine J.seq rfl ?_
  refine J.block rfl ?_
  refine J.seq rfl ?_
  refine J.region rfl ?_
  refine JO.pur rfl rfl rfl (Pur.loadA rfl rfl rfl CellsIn.blk) ?_
  refine JO.effR rfl rfl rfl (Eff.call rfl (s_Valid (rs := rs) (hs := hs) (xss := xss) rfl rfl)) ?_
  refine JO.pur rfl rfl rfl (Pur.not rfl) ?_
  refine JO.pur rfl rfl rfl (Pur.assign rfl) ?_
  refine JO.nil ?_
  refine J.splitB 7 rfl (fun h7 => ?_) (fun h7 => ?_)
  · try simp only [decide_eq_true_eq, decide_eq_false_iff_not, Bool.not_eq_true', Bool.not_eq_false', Bool.and_eq_true, Bool.or_eq_true, Bool.and_eq_false_iff, Bool.or_eq_false_iff, Option.isNone_some, Option.isSome_some, Option.isNone_none, Option.isSome_none, Int.not_lt, Int.not_le, beq_iff_eq, beq_eq_false_iff_ne, bne_iff_ne, ne_eq, Bool.not_not, Decidable.not_not] at h7
    have hns : ¬ okS rs xss := h7
    refine J.condT rfl rfl ?_
    refine J.seq rfl ?_
    refine J.region rfl ?_
    refine JO.pur rfl rfl rfl (Pur.assign rfl) ?_
    refine JO.pur rfl rfl rfl (Pur.assign rfl) ?_
    refine JO.pur rfl rfl rfl (Pur.assign rfl) ?_
    refine JO.nil ?_
    refine J.ret rfl rfl ?_
    have hv : colsV rs xss = ([], [], 50) := by unfold colsV; rw [if_pos hns]
    refine ⟨_, _, ⟨none, 0, none, 0, rfl, rfl⟩, by rw [hv]; rfl, fun h s => ?_⟩
    rw [hv]; exact sl_nil_new (sl_nil_new (SubC.out h s))
  · try simp only [decide_eq_true_eq, decide_eq_false_iff_not, Bool.not_eq_true', Bool.not_eq_false', Bool.and_eq_true, Bool.or_eq_true, Bool.and_eq_false_iff, Bool.or_eq_false_iff, Option.isNone_some, Option.isSome_some, Option.isNone_none, Option.isSome_none, Int.not_lt, Int.not_le, beq_iff_eq, beq_eq_false_iff_ne, bne_iff_ne, ne_eq, Bool.not_not, Decidable.not_not] at h7
    have hs0 : okS rs xss := h7
    refine J.condF rfl rfl ?_
    refine J.seq rfl ?_
    refine J.region rfl ?_
    refine JO.pur rfl rfl rfl (Pur.fieldAddr rfl) ?_
    refine JO.pur rfl rfl rfl (Pur.fieldAddr rfl) ?_
    refine JO.pur rfl rfl rfl (Pur.load rfl (CellIn.blk rfl)) ?_
    refine JO.pur rfl rfl rfl (Pur.len rfl) ?_
    refine JO.pur rfl rfl rfl (Pur.neqI rfl rfl) ?_
    refine JO.pur rfl rfl rfl (Pur.assign rfl) ?_
    refine JO.nil ?_
    refine J.splitB 11 rfl (fun h11 => ?_) (fun h11 => ?_)
    · try simp only [decide_eq_true_eq, decide_eq_false_iff_not, Bool.not_eq_true', Bool.not_eq_false', Bool.and_eq_true, Bool.or_eq_true, Bool.and_eq_false_iff, Bool.or_eq_false_iff, Option.isNone_some, Option.isSome_some, Option.isNone_none, Option.isSome_none, Int.not_lt, Int.not_le, beq_iff_eq, beq_eq_false_iff_ne, bne_iff_ne, ne_eq, Bool.not_not, Decidable.not_not] at h11
      have hl2 : rs.length ≠ 2 := by omega
      refine J.condT rfl rfl ?_
      refine J.seq rfl ?_
      refine J.region rfl ?_
      refine JO.pur rfl rfl rfl (Pur.assign rfl) ?_
      refine JO.pur rfl rfl rfl (Pur.assign rfl) ?_
      refine JO.pur rfl rfl rfl (Pur.assign rfl) ?_
      refine JO.nil ?_
      refine J.ret rfl rfl ?_
      have hv : colsV rs xss = ([], [], 2) := by unfold colsV; rw [if_neg (not_not_intro hs0), if_pos hl2]
      refine ⟨_, _, ⟨none, 0, none, 0, rfl, rfl⟩, by rw [hv]; rfl, fun h s => ?_⟩
      rw [hv]; exact sl_nil_new (sl_nil_new (SubC.out h s))
    · try simp only [decide_eq_true_eq, decide_eq_false_iff_not, Bool.not_eq_true', Bool.not_eq_false', Bool.and_eq_true, Bool.or_eq_true, Bool.and_eq_false_iff, Bool.or_eq_false_iff, Option.isNone_some, Option.isSome_some, Option.isNone_none, Option.isSome_none, Int.not_lt, Int.not_le, beq_iff_eq, beq_eq_false_iff_ne, bne_iff_ne, ne_eq, Bool.not_not, Decidable.not_not] at h11
      have hl2 : rs.length = 2 := by omega
      have hv1 : trnS rs xss = ((trD rs, trnL rs xss), 0) := if_neg (not_not_intro hs0)
      refine J.condF rfl rfl ?_
      refine J.skip rfl ?_
      refine J.inBlock ?_
      refine J.seq rfl ?_
      refine J.region rfl ?_
      refine JO.pur rfl rfl rfl (Pur.loadA rfl rfl rfl CellsIn.blk) ?_
      refine JO.eff rfl rfl rfl (Eff.call rfl (s_Transpose (rs := rs) (hs := hs) (xss := xss) rfl rfl)) ?_
      rintro _ _ ⟨pa, pc, qa, qc, hs1, rfl, rfl⟩
      rw [hv1]
      refine JO.fact (fun h s => RowsR.len (E := intE) (hs := hs1) (xss := trnL rs xss) s) fun hnn1 => ?_
      refine JO.pur rfl rfl rfl (Pur.move rfl) ?_
      refine JO.pur rfl rfl rfl (Pur.extract rfl rfl) ?_
      refine JO.pur rfl rfl rfl (Pur.extract rfl rfl) ?_
      refine JO.eff rfl rfl rfl (Eff.alloc (cs := [_, _]) rfl) ?_
      rintro _ _ ⟨b5, rfl, rfl⟩
      refine JO.effN rfl rfl (Eff.storeBA (cs' := [_, _]) rfl rfl (by rfl) (by rfl) (by rfl)) ?_
      rintro _ _ ⟨rfl, rfl⟩
      refine JO.pur rfl rfl rfl (Pur.assign rfl) ?_
      refine JO.nil ?_
      refine J.seq rfl ?_
      refine J.region rfl ?_
      refine JO.pur rfl rfl rfl (Pur.loadA rfl rfl rfl CellsIn.blk) ?_
      refine JO.eff rfl rfl rfl (Eff.call rfl (s_Rows (rs := trD rs) (hs := hs1) (xss := trnL rs xss) rfl (rows_len hnn1).symm)) ?_
      rintro _ _ ⟨a29, c29, a30, c30, rfl, rfl⟩
      refine JO.pur rfl rfl rfl (Pur.extract rfl rfl) ?_
      refine JO.pur rfl rfl rfl (Pur.extract rfl rfl) ?_
      refine JO.pur rfl rfl rfl (Pur.extract rfl rfl) ?_
      refine JO.pur rfl rfl rfl (Pur.assign rfl) ?_
      refine JO.pur rfl rfl rfl (Pur.assign rfl) ?_
      refine JO.pur rfl rfl rfl (Pur.assign rfl) ?_
      refine JO.nil ?_
      refine J.ret rfl rfl ?_
      have hv : colsV rs xss = rowsV (trD rs) (trnL rs xss) := by unfold colsV; rw [if_neg (not_not_intro hs0), if_neg (not_not_intro hl2)]
      refine ⟨_, _, ⟨a29, c29, a30, c30, rfl, rfl⟩, by rw [hv]; rfl, fun h s => ?_⟩
      rw [hv]
      exact SubC.out h s

end Go.Proofs.Ytnhippfllgnngaa

/- The text SN3. -/
set_option linter.unusedVariables false
set_option linter.unusedSimpArgs false
set_option maxRecDepth 10000
namespace Go.Proofs.Ytnhippfllgnngaa
open Go Go.KK Dm

theorem rowsV_b (rs : List Rg) (xss : List (List Int)) : (rowsV rs xss).1.length ≤ 1000000 ∧ (rowsV rs xss).2.1.length ≤ 1000000 := by
  unfold rowsV
  by_cases h : okS rs xss
  · rw [if_neg (not_not_intro h)]
    split
    · simp
    · rename_i hl
      obtain ⟨-, hc0, hb0⟩ := one_ok h.1 (k := 0) (by omega)
      have h2 := h.2.1
      dsimp only
      refine ⟨?_, ?_⟩
      · rw [preL_len, cntL_len, hc0]; omega
      · simp [colL]; omega
  · rw [if_pos h]; simp
theorem rowsV_ok {rs : List Rg} {xss : List (List Int)} (h : (rowsV rs xss).2.2 = 0) : okS rs xss ∧ rs.length = 2 := by
  unfold rowsV at h
  by_cases h1 : okS rs xss
  · rw [if_neg (not_not_intro h1)] at h
    by_cases h2 : rs.length = 2
    · exact ⟨h1, h2⟩
    · rw [if_pos h2] at h; cases h
  · rw [if_pos h1] at h; cases h
theorem lawBack {L : List Asn} {a la : Option Addr} {n cap ln lc : Nat} {rs : List Rg} {hs : List Hdr} {xss : List (List Int)} [SlIn rgE L a rs] [SlIn hE L la hs] [RowsR intE L hs xss] (hn : n = rs.length) (hl : ln = hs.length) (hb : hs.length ≤ 9223372036854775807) :
    CallS Try.prog 8 [.agg #[.slice a n cap, .slice la ln lc]].toArray L (fun v M => v = .bool true ∧ M = L) := by
  subst hn
  subst hl
  refine CallS.fact (fun h s => RowsR.len (E := intE) (hs := hs) (xss := xss) s) fun hnn => ?_
  have hhl : hs.length = xss.length := rows_len hnn
  refine CallS.ent ?_
  refine CallS.enter Try.func8 rfl rfl rfl rfl rfl ?_
  refine J.seq rfl ?_
  refine J.region rfl ?_
  refine JO.eff rfl rfl rfl (Eff.box (cs := [_, _]) rfl rfl) ?_
  rintro _ _ ⟨b1, rfl, rfl⟩
  refine JO.pur rfl rfl rfl (Pur.assign rfl) ?_
  refine JO.nil ?_
  refine J.seq rfl ?_
  refine J.region rfl ?_
  refine JO.pur rfl rfl rfl (Pur.loadA rfl rfl rfl CellsIn.blk) ?_
  refine JO.eff rfl rfl rfl (Eff.call rfl (s_Rows (rs := rs) (hs := hs) (xss := xss) rfl rfl)) ?_
  rintro _ _ ⟨sa17, sc17, ra17, rc17, rfl, rfl⟩
  refine JO.pur rfl rfl rfl (Pur.move rfl) ?_
  refine JO.pur rfl rfl rfl (Pur.extract rfl rfl) ?_
  refine JO.pur rfl rfl rfl (Pur.extract rfl rfl) ?_
  refine JO.pur rfl rfl rfl (Pur.extract rfl rfl) ?_
  refine JO.pur rfl rfl rfl (Pur.assign rfl) ?_
  refine JO.pur rfl rfl rfl (Pur.assign rfl) ?_
  refine JO.pur rfl rfl rfl (Pur.assign rfl) ?_
  refine JO.nil ?_
  refine J.seq rfl ?_
  refine J.seq rfl ?_
  refine J.region rfl ?_
  refine JO.pur rfl rfl rfl (Pur.loadA rfl rfl rfl CellsIn.blk) ?_
  refine JO.effR rfl rfl rfl (Eff.call rfl (largeS_ok (rs := rs) (hs := hs) (xss := xss) rfl rfl hb)) ?_
  refine JO.pur rfl rfl rfl (Pur.move rfl) ?_
  refine JO.splitB 23 rfl (fun h23 => ?_) (fun h23 => ?_)
  · try simp only [decide_eq_true_eq, decide_eq_false_iff_not, Bool.not_eq_true', Bool.not_eq_false', Bool.and_eq_true, Bool.or_eq_true, Bool.and_eq_false_iff, Bool.or_eq_false_iff, Option.isNone_some, Option.isSome_some, Option.isNone_none, Option.isSome_none, Int.not_lt, Int.not_le, beq_iff_eq, beq_eq_false_iff_ne, bne_iff_ne, ne_eq, Bool.not_not, Decidable.not_not] at h23
    refine JO.no rfl rfl rfl ?_
    refine JO.no rfl rfl rfl ?_
    refine JO.pur rfl rfl rfl (Pur.pickT rfl rfl) ?_
    refine JO.nil ?_
    refine J.condT rfl rfl ?_
    refine J.seq rfl ?_
    refine J.region rfl ?_
    refine JO.effR rfl rfl rfl (Eff.call rfl (first_ok)) ?_
    refine JO.pur rfl rfl rfl (Pur.assign rfl) ?_
    refine JO.nil ?_
    refine J.ret rfl rfl ?_
    refine ⟨_, _, ⟨rfl, rfl⟩, rfl, SubC.out⟩
  · try simp only [decide_eq_true_eq, decide_eq_false_iff_not, Bool.not_eq_true', Bool.not_eq_false', Bool.and_eq_true, Bool.or_eq_true, Bool.and_eq_false_iff, Bool.or_eq_false_iff, Option.isNone_some, Option.isSome_some, Option.isNone_none, Option.isSome_none, Int.not_lt, Int.not_le, beq_iff_eq, beq_eq_false_iff_ne, bne_iff_ne, ne_eq, Bool.not_not, Decidable.not_not] at h23
    refine JO.pur rfl rfl rfl (Pur.move rfl) ?_
    refine JO.pur rfl rfl rfl (Pur.neqI rfl rfl) ?_
    refine JO.pur rfl rfl rfl (Pur.pickF rfl rfl) ?_
    refine JO.nil ?_
    refine J.splitB 26 rfl (fun h26 => ?_) (fun h26 => ?_)
    · try simp only [decide_eq_true_eq, decide_eq_false_iff_not, Bool.not_eq_true', Bool.not_eq_false', Bool.and_eq_true, Bool.or_eq_true, Bool.and_eq_false_iff, Bool.or_eq_false_iff, Option.isNone_some, Option.isSome_some, Option.isNone_none, Option.isSome_none, Int.not_lt, Int.not_le, beq_iff_eq, beq_eq_false_iff_ne, bne_iff_ne, ne_eq, Bool.not_not, Decidable.not_not] at h26
      refine J.condT rfl rfl ?_
      refine J.seq rfl ?_
      refine J.region rfl ?_
      refine JO.effR rfl rfl rfl (Eff.call rfl (first_ok)) ?_
      refine JO.pur rfl rfl rfl (Pur.assign rfl) ?_
      refine JO.nil ?_
      refine J.ret rfl rfl ?_
      refine ⟨_, _, ⟨rfl, rfl⟩, rfl, SubC.out⟩
    · try simp only [decide_eq_true_eq, decide_eq_false_iff_not, Bool.not_eq_true', Bool.not_eq_false', Bool.and_eq_true, Bool.or_eq_true, Bool.and_eq_false_iff, Bool.or_eq_false_iff, Option.isNone_some, Option.isSome_some, Option.isNone_none, Option.isSome_none, Int.not_lt, Int.not_le, beq_iff_eq, beq_eq_false_iff_ne, bne_iff_ne, ne_eq, Bool.not_not, Decidable.not_not] at h26
      have he0 : (rowsV rs xss).2.2 = 0 := by simpa using h26
      obtain ⟨hs0, hl2⟩ := rowsV_ok he0
      have hbk := back_frm hs0 hl2
      have hv1 : trnS rs xss = ((trD rs, trnL rs xss), 0) := if_neg (not_not_intro hs0)
      have hcv : colsV rs xss = rowsV (trD rs) (trnL rs xss) := by unfold colsV; rw [if_neg (not_not_intro hs0), if_neg (not_not_intro hl2)]
      obtain ⟨-, hc1, -⟩ := one_ok hs0.1 (k := 1) (by omega)
      have hr0 : (rowsV (trD rs) (trnL rs xss)).2.2 = 0 := by rw [cols_eq hs0 hl2 hc1]
      have hr3 := hs0.1.2.1
      have hx4 := hs0.2.1
      have hxb : ∀ x ∈ xss, x.length ≤ 1000000 := fun x hx => by have := okS_len hs0 hx; omega
      have hrb := rowsV_b rs xss
      have hrb2 := rowsV_b (trD rs) (trnL rs xss)
      refine J.condF rfl rfl ?_
      refine J.skip rfl ?_
      refine J.seq rfl ?_
      refine J.fact (fun h s => SlH.le (E := intE) (a := ra17) (cap := rc17) (xs := (rowsV rs xss).2.1) s) fun hcap => ?_
      refine J.region rfl ?_
      refine JO.pur rfl rfl rfl (Pur.fieldAddr rfl) ?_
      refine JO.pur rfl rfl rfl (Pur.loadA rfl rfl rfl (CellsIn.sub1 rfl)) ?_
      refine JO.pur rfl rfl rfl (Pur.move rfl) ?_
      refine JO.pur rfl rfl rfl (Pur.move rfl) ?_
      refine JO.eff rfl rfl rfl (Eff.call rfl (s_From (rs := rs) (starts := (rowsV rs xss).1) (cols := (rowsV rs xss).2.1) rfl rfl rfl hcap hrb.1 hrb.2)) ?_
      rintro _ _ ⟨pa33, pc33, qa33, qc33, hs33, rfl, rfl⟩
      rw [hbk]
      refine JO.pur rfl rfl rfl (Pur.move rfl) ?_
      refine JO.pur rfl rfl rfl (Pur.extract rfl rfl) ?_
      refine JO.pur rfl rfl rfl (Pur.extract rfl rfl) ?_
      refine JO.eff rfl rfl rfl (Eff.alloc (cs := [_, _]) rfl) ?_
      rintro _ _ ⟨b6, rfl, rfl⟩
      refine JO.effN rfl rfl (Eff.storeBA (cs' := [_, _]) rfl rfl (by rfl) (by rfl) (by rfl)) ?_
      rintro _ _ ⟨rfl, rfl⟩
      refine JO.pur rfl rfl rfl (Pur.assign rfl) ?_
      refine JO.nil ?_
      refine J.seq rfl ?_
      refine J.region rfl ?_
      refine JO.pur rfl rfl rfl (Pur.loadA rfl rfl rfl CellsIn.blk) ?_
      refine JO.eff rfl rfl rfl (Eff.call rfl (s_Transpose (rs := rs) (hs := hs) (xss := xss) rfl rfl)) ?_
      rintro _ _ ⟨pa38, pc38, qa38, qc38, hs38, rfl, rfl⟩
      rw [hv1]
      refine JO.fact (fun h s => RowsR.len (E := intE) (hs := hs38) (xss := trnL rs xss) s) fun hnn1 => ?_
      refine JO.pur rfl rfl rfl (Pur.move rfl) ?_
      refine JO.pur rfl rfl rfl (Pur.extract rfl rfl) ?_
      refine JO.pur rfl rfl rfl (Pur.extract rfl rfl) ?_
      refine JO.eff rfl rfl rfl (Eff.alloc (cs := [_, _]) rfl) ?_
      rintro _ _ ⟨b7, rfl, rfl⟩
      refine JO.effN rfl rfl (Eff.storeBA (cs' := [_, _]) rfl rfl (by rfl) (by rfl) (by rfl)) ?_
      rintro _ _ ⟨rfl, rfl⟩
      refine JO.pur rfl rfl rfl (Pur.assign rfl) ?_
      refine JO.nil ?_
      refine J.seq rfl ?_
      refine J.region rfl ?_
      refine JO.pur rfl rfl rfl (Pur.loadA rfl rfl rfl CellsIn.blk) ?_
      refine JO.eff rfl rfl rfl (Eff.call rfl (s_Columns (rs := rs) (hs := hs) (xss := xss) rfl rfl)) ?_
      rintro _ _ ⟨sa43, sc43, ra43, rc43, rfl, rfl⟩
      rw [hcv]
      refine JO.pur rfl rfl rfl (Pur.move rfl) ?_
      refine JO.pur rfl rfl rfl (Pur.extract rfl rfl) ?_
      refine JO.pur rfl rfl rfl (Pur.extract rfl rfl) ?_
      refine JO.pur rfl rfl rfl (Pur.extract rfl rfl) ?_
      refine JO.pur rfl rfl rfl (Pur.assign rfl) ?_
      refine JO.pur rfl rfl rfl (Pur.assign rfl) ?_
      refine JO.pur rfl rfl rfl (Pur.assign rfl) ?_
      refine JO.nil ?_
      refine J.seq rfl ?_
      refine J.region rfl ?_
      refine JO.pur rfl rfl rfl (Pur.loadA rfl rfl rfl CellsIn.blk) ?_
      refine JO.eff rfl rfl rfl (Eff.call rfl (s_Rows (rs := trD rs) (hs := hs38) (xss := trnL rs xss) rfl (rows_len hnn1).symm)) ?_
      rintro _ _ ⟨sa49, sc49, ra49, rc49, rfl, rfl⟩
      refine JO.pur rfl rfl rfl (Pur.move rfl) ?_
      refine JO.pur rfl rfl rfl (Pur.extract rfl rfl) ?_
      refine JO.pur rfl rfl rfl (Pur.extract rfl rfl) ?_
      refine JO.pur rfl rfl rfl (Pur.extract rfl rfl) ?_
      refine JO.pur rfl rfl rfl (Pur.assign rfl) ?_
      refine JO.pur rfl rfl rfl (Pur.assign rfl) ?_
      refine JO.pur rfl rfl rfl (Pur.assign rfl) ?_
      refine JO.nil ?_
      refine J.seq rfl ?_
      refine J.region rfl ?_
      refine JO.pur rfl rfl rfl (Pur.move rfl) ?_
      refine JO.pur rfl rfl rfl (Pur.eqlI rfl rfl) ?_
      refine JO.pur rfl rfl rfl (Pur.move rfl) ?_
      refine JO.setv (u' := .bool true) 55 rfl (congrArg Value.bool (decide_eq_true rfl)) ?_
      refine JO.pur rfl rfl rfl (Pur.move rfl) ?_
      refine JO.pur rfl rfl rfl (Pur.eqlI rfl rfl) ?_
      refine JO.pur rfl rfl rfl (Pur.pickT rfl rfl) ?_
      refine JO.pur rfl rfl rfl (Pur.move rfl) ?_
      refine JO.setv (u' := .bool true) 59 rfl (congrArg Value.bool (decide_eq_true rfl)) ?_
      refine JO.pur rfl rfl rfl (Pur.move rfl) ?_
      refine JO.pur rfl rfl rfl (Pur.eqlI rfl rfl) ?_
      refine JO.pur rfl rfl rfl (Pur.pickT rfl rfl) ?_
      refine JO.pur rfl rfl rfl (Pur.move rfl) ?_
      refine JO.setv (u' := .bool true) 63 rfl (congrArg Value.bool (decide_eq_true hr0)) ?_
      refine JO.pur rfl rfl rfl (Pur.move rfl) ?_
      refine JO.pur rfl rfl rfl (Pur.eqlI rfl rfl) ?_
      refine JO.pur rfl rfl rfl (Pur.pickT rfl rfl) ?_
      refine JO.pur rfl rfl rfl (Pur.move rfl) ?_
      refine JO.setv (u' := .bool true) 67 rfl (congrArg Value.bool (decide_eq_true hr0)) ?_
      refine JO.pur rfl rfl rfl (Pur.loadA rfl rfl rfl CellsIn.blk) ?_
      refine JO.pur rfl rfl rfl (Pur.loadA rfl rfl rfl CellsIn.blk) ?_
      refine JO.effR rfl rfl rfl (Eff.call rfl (equalS_ok (rs := rs) (xss := xss) rfl rfl rfl hhl (by omega) (by omega) hxb)) ?_
      refine JO.setv (u' := .bool true) 70 rfl (congrArg Value.bool (rfl)) ?_
      refine JO.pur rfl rfl rfl (Pur.pickT rfl rfl) ?_
      refine JO.pur rfl rfl rfl (Pur.move rfl) ?_
      refine JO.pur rfl rfl rfl (Pur.move rfl) ?_
      refine JO.pur rfl rfl rfl (Pur.move rfl) ?_
      refine JO.effR rfl rfl rfl (Eff.call rfl (same5_ok (xs := (rowsV (trD rs) (trnL rs xss)).1) (ys := (rowsV (trD rs) (trnL rs xss)).1) rfl rfl hrb2.1)) ?_
      refine JO.setv (u' := .bool true) 75 rfl (congrArg Value.bool (decide_eq_true rfl)) ?_
      refine JO.pur rfl rfl rfl (Pur.pickT rfl rfl) ?_
      refine JO.pur rfl rfl rfl (Pur.move rfl) ?_
      refine JO.pur rfl rfl rfl (Pur.move rfl) ?_
      refine JO.pur rfl rfl rfl (Pur.move rfl) ?_
      refine JO.effR rfl rfl rfl (Eff.call rfl (same5_ok (xs := (rowsV (trD rs) (trnL rs xss)).2.1) (ys := (rowsV (trD rs) (trnL rs xss)).2.1) rfl rfl hrb2.2)) ?_
      refine JO.setv (u' := .bool true) 80 rfl (congrArg Value.bool (decide_eq_true rfl)) ?_
      refine JO.pur rfl rfl rfl (Pur.pickT rfl rfl) ?_
      refine JO.pur rfl rfl rfl (Pur.move rfl) ?_
      refine JO.effR rfl rfl rfl (Eff.call rfl (first_ok)) ?_
      refine JO.pur rfl rfl rfl (Pur.pickT rfl rfl) ?_
      refine JO.pur rfl rfl rfl (Pur.assign rfl) ?_
      refine JO.nil ?_
      refine J.ret rfl rfl ?_
      refine ⟨_, _, ⟨rfl, rfl⟩, rfl, SubC.out⟩

end Go.Proofs.Ytnhippfllgnngaa

/- The text SG2. -/
/-! A range that is given. -/
set_option linter.unusedVariables false
set_option linter.unusedSimpArgs false
namespace Go.Proofs.Ytnhippfllgnngaa
open Go Go.KK Dm Go.ChangeShapes Go.WideShapes Go.ChangeAt Go.RowKit Go.Deep
theorem trod_rgS {H : Type} {enc : TypeId × Value → H} {w : World} {base : Nat} {spare : Nat → Bool} {held : Bool} {fuel : Nat} {cs : List Value} {x : DataW H × List MemPlace} (h : DataW.trod enc Try.prog w base spare held fuel 93 cs = some x) : ∃ g : Rg, rgE.enc g = cs := by
  obtain ⟨ys, hx, hl, hxl, hff⟩ := open_cells Try.underlying93 (hone_of (by kernel_rfl)) (by kernel_rfl) h
  obtain ⟨c0, c1, c2, rfl⟩ := len3 hl
  obtain ⟨y0, y1, y2, rfl⟩ := len3 hxl
  obtain ⟨n0, h0⟩ := hff 0 _ _ _ rfl rfl rfl
  obtain ⟨n1, h1⟩ := hff 1 _ _ _ rfl rfl rfl
  obtain ⟨n2, h2⟩ := hff 2 _ _ _ rfl rfl rfl
  obtain ⟨a, ea, _⟩ := cell_int Try.underlying3 h0
  obtain ⟨b, eb, _⟩ := cell_int Try.underlying3 h1
  obtain ⟨c, ec, _⟩ := cell_int Try.underlying3 h2
  subst ea; subst eb; subst ec
  exact ⟨⟨a, b, c⟩, rfl⟩
end Go.Proofs.Ytnhippfllgnngaa
