/-
  A part of the proof of the claim that this folder bears.
-/
import Derived.Test.YtnhippfllgnngaaPAO
import Derived.Test.YtnhippfllgnngaaPAN
/- The text SpPlain5. -/
set_option linter.unusedVariables false
set_option linter.unusedSimpArgs false
/-! From lists that are compressed by rows. -/
namespace Go.Proofs.Ytnhippfllgnngaa
open Go Go.KK Dm
abbrev SpRF := (List Rg × List (List Int)) × Int
/-- The lists' form. -/
def chkF (R : Nat) (starts cols : List Int) : Prop := starts.length = R + 1 ∧ starts.getD 0 0 = 0 ∧ starts.getD R 0 = (cols.length : Int) ∧ cols.length ≤ 400 ∧ sortB starts
instance (R : Nat) (starts cols : List Int) : Decidable (chkF R starts cols) := inferInstanceAs (Decidable (_ ∧ _))
/-- The row that a place of the list of columns is in. -/
def rowAt (starts : List Int) (i : Nat) : Nat := (starts.countP fun s => decide (s ≤ (i : Int))) - 1
/-- The indexes that the lists name. -/
def fromK (rs : List Rg) (starts cols : List Int) (n : Nat) : List (List Int) := (List.range n).map fun i => ixD (canD rs) (rowAt starts i * cnt ((canD rs).getD 1 default) + (cols.getD i 0).toNat)
def goodC (rs : List Rg) (cols : List Int) : Prop := ∀ i, i < cols.length → 0 ≤ cols.getD i 0 ∧ cols.getD i 0 < (cnt ((canD rs).getD 1 default) : Int)
instance (rs : List Rg) (cols : List Int) : Decidable (goodC rs cols) := inferInstanceAs (Decidable (∀ i, i < cols.length → _))
def frmS (rs : List Rg) (starts cols : List Int) : SpRF := if ¬ okD rs then (([], []), 50) else if rs.length ≠ 2 then (([], []), 2) else
  if ¬ (chkF (cnt ((canD rs).getD 0 default)) starts cols ∧ goodC rs cols ∧ okS rs (fromK rs starts cols cols.length)) then (([], []), 5) else ((rs, fromK rs starts cols cols.length), 0)
end Go.Proofs.Ytnhippfllgnngaa

/- The text SK4. -/
set_option linter.unusedVariables false
set_option linter.unusedSimpArgs false
set_option maxRecDepth 10000
namespace Go.Proofs.Ytnhippfllgnngaa
open Go Go.KK Dm

end Go.Proofs.Ytnhippfllgnngaa

/- The text SpPlain6. -/
set_option linter.unusedVariables false
set_option linter.unusedSimpArgs false
/-! The reference's way from lists that are compressed by rows. -/
namespace Go.Proofs.Ytnhippfllgnngaa
open Go Go.KK Dm
end Go.Proofs.Ytnhippfllgnngaa

/- The text SpPlainE. -/
set_option linter.unusedVariables false
set_option linter.unusedSimpArgs false
namespace Go.Proofs.Ytnhippfllgnngaa
open Go Go.KK Dm
theorem ascI_unique : ∀ {a b : List Int}, a.Pairwise (· < ·) → b.Pairwise (· < ·) → (∀ n, n ∈ a ↔ n ∈ b) → a = b
  | [], [], _, _, _ => rfl
  | [], y :: b, _, _, h => by have := (h y).2 List.mem_cons_self; cases this
  | x :: a, [], _, _, h => by have := (h x).1 List.mem_cons_self; cases this
  | x :: a, y :: b, ha, hb, h => by
    obtain ⟨a1, a2⟩ := List.pairwise_cons.1 ha
    obtain ⟨b1, b2⟩ := List.pairwise_cons.1 hb
    have hxy : x = y := by
      rcases List.mem_cons.1 ((h x).1 List.mem_cons_self) with e | e
      · exact e
      · rcases List.mem_cons.1 ((h y).2 List.mem_cons_self) with e2 | e2
        · exact e2.symm
        · have := b1 x e; have := a1 y e2; omega
    subst hxy
    rw [ascI_unique a2 b2 fun n => ?_]
    constructor
    · intro hn
      rcases List.mem_cons.1 ((h n).1 (List.mem_cons_of_mem _ hn)) with e | e
      · subst e; have := a1 n hn; omega
      · exact e
    · intro hn
      rcases List.mem_cons.1 ((h n).2 (List.mem_cons_of_mem _ hn)) with e | e
      · subst e; have := b1 n hn; omega
      · exact e
theorem canR_idem {r : Rg} (h : okR r) : canR (canR r) = canR r := by
  by_cases h0 : cntI r = 0
  · have e : canR r = none3 := by unfold canR; rw [if_pos h0]
    rw [e]; rfl
  · have hn := cntI_nonneg h
    have hc : cnt r ≠ 0 := by unfold cnt; omega
    obtain ⟨h1, h2, h3⟩ := canR_same h hc
    by_cases h4 : cntI r = 1
    · have e : canR (canR r) = ⟨fst (canR r), fst (canR r), 1⟩ := by
        conv => lhs; unfold canR
        rw [if_neg (by rw [show (if cntI r = 0 then none3 else if cntI r = 1 then (⟨fst r, fst r, 1⟩ : Rg) else ⟨min (fst r) (lastR r), max (fst r) (lastR r), r.st⟩) = canR r from rfl, h1]; exact h0), if_pos (by rw [show (if cntI r = 0 then none3 else if cntI r = 1 then (⟨fst r, fst r, 1⟩ : Rg) else ⟨min (fst r) (lastR r), max (fst r) (lastR r), r.st⟩) = canR r from rfl, h1]; exact h4)]
        rfl
      rw [e, h2]
      unfold canR; rw [if_neg h0, if_pos h4]
    · have hst := h3 h4
      have hl : lastR (canR r) = lastR r := by unfold lastR atR; rw [h1, h2, hst]
      have e : canR (canR r) = ⟨min (fst (canR r)) (lastR (canR r)), max (fst (canR r)) (lastR (canR r)), (canR r).st⟩ := by
        generalize canR r = c at h1 ⊢
        unfold canR
        rw [if_neg (by rw [h1]; exact h0), if_neg (by rw [h1]; exact h4)]
      rw [e, h2, hl, hst]
      unfold canR; rw [if_neg h0, if_neg h4]
theorem canD_idem {d : List Rg} (h : okRs d) (hne : d ≠ []) : canD (canD d) = canD d := by
  by_cases h0 : cntD d = 0
  · have e : canD d = d.map fun _ => none3 := if_pos h0
    rw [e]
    have h1 : cntD (d.map fun _ => none3) = 0 := by
      cases d with
      | nil => exact absurd rfl hne
      | cons r d => rw [List.map_cons, cntD_cons, none3_cnt, Nat.zero_mul]
    unfold canD
    rw [if_pos h1, List.map_map]; rfl
  · have e : canD d = d.map canR := if_neg h0
    have hidem : (d.map canR).map canR = d.map canR := by
      rw [List.map_map]; exact List.map_congr_left fun r hr => canR_idem (h r hr)
    have hz : ∀ {l : List Rg}, (∀ r ∈ l, okR r) → (∀ r ∈ l, cnt r ≠ 0) → cntD (l.map canR) = cntD l := by
      intro l
      induction l with
      | nil => intro _ _; rfl
      | cons r l ih =>
        intro ho hc
        rw [List.map_cons, cntD_cons, cntD_cons, ih (fun q hq => ho q (List.mem_cons_of_mem _ hq)) (fun q hq => hc q (List.mem_cons_of_mem _ hq))]
        obtain ⟨h1, -, -⟩ := canR_same (ho r List.mem_cons_self) (hc r List.mem_cons_self)
        unfold cnt; rw [h1]
    have hnz : ∀ {l : List Rg}, cntD l ≠ 0 → ∀ r ∈ l, cnt r ≠ 0 := by
      intro l
      induction l with
      | nil => intro _ r hr; cases hr
      | cons q l ih =>
        intro hl r hr g
        rw [cntD_cons] at hl
        rcases List.mem_cons.1 hr with e | hr
        · subst e; rw [g, Nat.zero_mul] at hl; exact hl rfl
        · exact ih (fun g2 => hl (by rw [g2, Nat.mul_zero])) r hr g
    rw [e]
    unfold canD
    rw [if_neg (by rw [hz h (hnz h0)]; exact h0), hidem]
theorem tr_facts {rs : List Rg} (h : okD rs) : trD rs = (canD rs).reverse ∧ trD rs = canD rs.reverse ∧ okD (trD rs) ∧ (trD rs).length = rs.length ∧ canD (trD rs) = trD rs := by
  have e : trD rs = (canD rs).reverse := if_pos h
  have hne : rs ≠ [] := fun g => by have := h.1; rw [g] at this; simp at this
  have hl : (trD rs).length = rs.length := by rw [e, List.length_reverse, canD_len]
  refine ⟨e, by rw [e, canD_rev], by rw [e]; exact okD_rev.2 (canD_okD h), hl, ?_⟩
  rw [e, canD_rev, canD_idem h.2.2.1 hne]
theorem plK_some {d : List Rg} {x : List Int} : ∀ {k : Nat}, (plK d x k).isSome = true ↔ ∀ j, j < k → (plR (d.getD j default) (x.getD j default)).isSome = true
  | 0 => by simp [plK]
  | k + 1 => by
    have ih := plK_some (d := d) (x := x) (k := k)
    constructor
    · intro hs j hj
      unfold plK at hs
      cases e1 : plK d x k with
      | none => rw [e1] at hs; simp at hs
      | some a =>
        cases e2 : plR (d.getD k default) (x.getD k default) with
        | none => rw [e1, e2] at hs; simp at hs
        | some i =>
          by_cases e : j = k
          · subst e; rw [e2]; rfl
          · exact ih.1 (by rw [e1]; rfl) j (by omega)
    · intro hall
      obtain ⟨a, ha⟩ := Option.isSome_iff_exists.1 (ih.2 fun j hj => hall j (by omega))
      obtain ⟨i, hi⟩ := Option.isSome_iff_exists.1 (hall k (by omega))
      unfold plK; rw [ha, hi]; rfl
theorem plD_some_len {d : List Rg} {x : List Int} (h : (plD d x).isSome = true) : x.length = d.length := by
  unfold plD at h
  by_cases e : x.length = d.length
  · exact e
  · rw [if_neg e] at h; cases h
theorem tr_some {rs : List Rg} {x : List Int} (h : okD rs) (hx : (plD rs x).isSome = true) : (plD (trD rs) x.reverse).isSome = true := by
  obtain ⟨e1, -, -, hl, -⟩ := tr_facts h
  have hxl := plD_some_len hx
  unfold plD
  rw [if_pos (by rw [List.length_reverse, hl, hxl]), plK_some]
  intro j hj
  rw [hl] at hj
  rw [e1, getD_rev (by rw [canD_len]; exact hj), getD_rev (by rw [hxl]; exact hj), canD_len, hxl]
  obtain ⟨i, e, -, -⟩ := mem_one h hx (k := rs.length - 1 - j) (by omega)
  have e' : plR ((canD rs).getD (rs.length - 1 - j) default) (x.getD (rs.length - 1 - j) default) = some i := e
  rw [e']; rfl
def trnL (rs : List Rg) (xss : List (List Int)) : List (List Int) := madeL (trD rs) ((xss.map List.reverse).map (atS (trD rs)))
theorem trn_made {rs : List Rg} {xss yss : List (List Int)} (h : okS rs xss) (hp : yss.Perm (xss.map List.reverse)) (hs : yss.Pairwise fun x y => atS (trD rs) x ≤ atS (trD rs) y) : trnL rs xss = yss ∧ (∀ y ∈ yss, (plD (trD rs) y).isSome = true) ∧ yss.Pairwise fun x y => atS (trD rs) x < atS (trD rs) y := by
  obtain ⟨e1, e2, hok, hl, hid⟩ := tr_facts h.1
  have hsome : ∀ y ∈ yss, (plD (trD rs) y).isSome = true := fun y hy => by
    obtain ⟨x, hx, rfl⟩ := List.mem_map.1 (hp.mem_iff.1 hy)
    exact tr_some h.1 (okS_some h hx)
  have hnd : yss.Pairwise fun x y => x ≠ y := by
    have h0 : xss.Pairwise fun x y => x ≠ y := (okS_pw h).imp fun {a b} g e => by rw [e] at g; omega
    have h1 : (xss.map List.reverse).Pairwise fun x y => x ≠ y := by
      rw [List.pairwise_map]
      exact h0.imp fun {a b} g e => g (by have := congrArg List.reverse e; simpa using this)
    exact (hp.pairwise_iff (fun {a b} g e => g e.symm)).2 h1
  have hlt : yss.Pairwise fun x y => atS (trD rs) x < atS (trD rs) y := by
    have := hs.and hnd
    refine this.imp_of_mem ?_
    intro a b ha hb ⟨g1, g2⟩
    have : atS (trD rs) a ≠ atS (trD rs) b := fun e => g2 (atS_inj hok.2.2.1 (hsome a ha) (hsome b hb) e)
    omega
  refine ⟨?_, hsome, hlt⟩
  unfold trnL
  rw [← made_of hok hsome hlt]
  exact made_congr fun t => ((hp.map _).mem_iff).symm
theorem okS_of {rs : List Rg} {xss : List (List Int)} (h1 : okD rs) (h2 : xss.length ≤ 400) (h3 : ∀ y ∈ xss, (plD rs y).isSome = true) (h4 : xss.Pairwise fun x y => atS rs x < atS rs y) : okS rs xss := by
  refine (okS_iff h1 h2).2 ⟨fun x hx => (plV_ok h1 x).1.2 (h3 x hx), fun j hj hl => ?_⟩
  rw [List.pairwise_iff_getElem] at h4
  have := h4 (j - 1) j (by omega) hl (by omega)
  rwa [List.getD_eq_getElem?_getD, List.getD_eq_getElem?_getD, List.getElem?_eq_getElem (by omega : j - 1 < xss.length), List.getElem?_eq_getElem hl]
theorem trn_ex {rs : List Rg} {xss : List (List Int)} (h : okS rs xss) : (trnL rs xss).Perm (xss.map List.reverse) ∧ okS (trD rs) (trnL rs xss) := by
  obtain ⟨e1, e2, hok, hl, hid⟩ := tr_facts h.1
  have hp := List.mergeSort_perm (xss.map List.reverse) (fun a b => decide (atS (trD rs) a ≤ atS (trD rs) b))
  have hs := List.pairwise_mergeSort (le := fun a b => decide (atS (trD rs) a ≤ atS (trD rs) b)) (fun a b c g1 g2 => by simp at g1 g2 ⊢; omega) (fun a b => by simp; omega) (xss.map List.reverse)
  obtain ⟨q1, q2, q3⟩ := trn_made h hp (hs.imp fun {a b} g => of_decide_eq_true g)
  rw [q1]
  exact ⟨hp, okS_of hok (by rw [hp.length_eq, List.length_map]; exact h.2.1) q2 q3⟩
end Go.Proofs.Ytnhippfllgnngaa

/- The text SpPlainF. -/
set_option linter.unusedVariables false
set_option linter.unusedSimpArgs false
namespace Go.Proofs.Ytnhippfllgnngaa
open Go Go.KK Dm
theorem pick_tab (d : List Rg) (xss : List (List Int)) (w k : Nat) : pickP (tabL d xss) w k = (xss.filter fun x => decide (nthP w (memS d 0 (x.getD 0 0), memS d 1 (x.getD 1 0)) = (k : Int))).map fun x => nthP (1 - w) (memS d 0 (x.getD 0 0), memS d 1 (x.getD 1 0)) := by
  unfold pickP tabL
  rw [List.filter_map, List.map_map]; rfl
theorem one_rev {rs : List Rg} (hl : rs.length = 2) : oneR (canD rs).reverse 0 = oneR (canD rs) 1 ∧ oneR (canD rs).reverse 1 = oneR (canD rs) 0 := by
  have h := canD_len rs
  unfold oneR
  rw [getD_rev (by omega), getD_rev (by omega), h, hl]
  exact ⟨rfl, rfl⟩
theorem rev_two {x : List Int} (h : x.length = 2) : x.reverse.getD 0 0 = x.getD 1 0 ∧ x.reverse.getD 1 0 = x.getD 0 0 := by
  match x, h with
  | [a, b], _ => exact ⟨rfl, rfl⟩
theorem picks_eq {rs : List Rg} {xss : List (List Int)} (h : okS rs xss) (hl : rs.length = 2) (k : Nat) : pickP (tabL (canD (trD rs)) (trnL rs xss)) 0 k = pickP (tabL (canD rs) xss) 1 k := by
  obtain ⟨e1, e2, hok, hl2, hid⟩ := tr_facts h.1
  obtain ⟨hp, hT⟩ := trn_ex h
  obtain ⟨o1, o2⟩ := one_rev hl
  have m0 : ∀ z, memS (canD (trD rs)) 0 z = memS (canD rs) 1 z := fun z => by unfold memS; rw [hid, e1, o1]
  have m1 : ∀ z, memS (canD (trD rs)) 1 z = memS (canD rs) 0 z := fun z => by unfold memS; rw [hid, e1, o2]
  rw [pick_tab, pick_tab]
  refine ascI_unique ?_ ?_ fun n => ?_
  · rw [List.pairwise_map]
    refine ((okS_pw hT).filter _).imp_of_mem ?_
    intro a b ha hb hlt
    have ha1 := List.mem_filter.1 ha
    have hb1 := List.mem_filter.1 hb
    obtain ⟨i, j, p0, p1, l0, l1, e⟩ := at_rc hT.1 (by rw [hl2]; exact hl) (okS_some hT ha1.1)
    obtain ⟨i', j', p0', p1', l0', l1', e'⟩ := at_rc hT.1 (by rw [hl2]; exact hl) (okS_some hT hb1.1)
    have ka := of_decide_eq_true ha1.2
    have kb := of_decide_eq_true hb1.2
    simp only [nthP, if_true, Nat.sub_zero] at ka kb ⊢
    rw [p0] at ka
    rw [p0'] at kb
    have : i = i' := by omega
    subst this
    rw [e, e'] at hlt
    show (if (1 : Nat) = 0 then _ else memS (canD (trD rs)) 1 (a.getD 1 0)) < (if (1 : Nat) = 0 then _ else memS (canD (trD rs)) 1 (b.getD 1 0))
    rw [if_neg (by decide), if_neg (by decide), p1, p1']
    omega
  · rw [List.pairwise_map]
    refine ((okS_pw h).filter _).imp_of_mem ?_
    intro a b ha hb hlt
    have ha1 := List.mem_filter.1 ha
    have hb1 := List.mem_filter.1 hb
    obtain ⟨i, j, p0, p1, l0, l1, e⟩ := at_rc h.1 hl (okS_some h ha1.1)
    obtain ⟨i', j', p0', p1', l0', l1', e'⟩ := at_rc h.1 hl (okS_some h hb1.1)
    have ka := of_decide_eq_true ha1.2
    have kb := of_decide_eq_true hb1.2
    simp only [nthP] at ka kb ⊢
    rw [if_neg (by decide), p1] at ka
    rw [if_neg (by decide), p1'] at kb
    have : j = j' := by omega
    subst this
    rw [e, e'] at hlt
    rw [if_pos (by decide), if_pos (by decide), p0, p0']
    have h5 : i * cnt ((canD rs).getD 1 default) < i' * cnt ((canD rs).getD 1 default) := by omega
    have := Nat.lt_of_mul_lt_mul_right h5
    omega
  · constructor
    · intro hn
      obtain ⟨y, hy, rfl⟩ := List.mem_map.1 hn
      obtain ⟨hy1, hy2⟩ := List.mem_filter.1 hy
      obtain ⟨x, hx, rfl⟩ := List.mem_map.1 (hp.mem_iff.1 hy1)
      obtain ⟨r1, r2⟩ := rev_two (by rw [okS_len h hx]; exact hl)
      have := of_decide_eq_true hy2
      refine List.mem_map.2 ⟨x, List.mem_filter.2 ⟨hx, decide_eq_true ?_⟩, ?_⟩
      · rw [r1, m0] at this; exact this
      · show (memS (canD rs) 0 (x.getD 0 0)) = memS (canD (trD rs)) 1 (x.reverse.getD 1 0)
        rw [r2, m1]
    · intro hn
      obtain ⟨x, hx, rfl⟩ := List.mem_map.1 hn
      obtain ⟨hx1, hx2⟩ := List.mem_filter.1 hx
      obtain ⟨r1, r2⟩ := rev_two (by rw [okS_len h hx1]; exact hl)
      have := of_decide_eq_true hx2
      refine List.mem_map.2 ⟨x.reverse, List.mem_filter.2 ⟨hp.mem_iff.2 (List.mem_map.2 ⟨x, hx1, rfl⟩), decide_eq_true ?_⟩, ?_⟩
      · show memS (canD (trD rs)) 0 (x.reverse.getD 0 0) = (k : Int)
        rw [r1, m0]; exact this
      · show memS (canD (trD rs)) 1 (x.reverse.getD 1 0) = memS (canD rs) 0 (x.getD 0 0)
        rw [r2, m1]
theorem cols_eq {rs : List Rg} {xss : List (List Int)} (h : okS rs xss) (hl : rs.length = 2) {C : Nat} (hC : ctV (oneR (canD rs) 1) = (C : Int)) : rowsV (trD rs) (trnL rs xss) = (stsK (tabL (canD rs) xss) 1 C, othK (tabL (canD rs) xss) 1 C, 0) := by
  obtain ⟨e1, e2, hok, hl2, hid⟩ := tr_facts h.1
  obtain ⟨hp, hT⟩ := trn_ex h
  rw [rowsV_eq hT (by rw [hl2]; exact hl) (R := C) (by rw [hid, e1, (one_rev hl).1]; exact hC)]
  have ho : ∀ k, othK (tabL (canD (trD rs)) (trnL rs xss)) 0 k = othK (tabL (canD rs) xss) 1 k := fun k => by
    unfold othK
    rw [List.flatMap_def, List.flatMap_def]
    congr 1
    exact List.map_congr_left fun i _ => picks_eq h hl i
  have hs : stsK (tabL (canD (trD rs)) (trnL rs xss)) 0 C = stsK (tabL (canD rs) xss) 1 C := by
    unfold stsK
    exact List.map_congr_left fun i _ => by rw [ho]
  rw [ho, hs]
/-- The dimensions exchanged. -/
def trnS (rs : List Rg) (xss : List (List Int)) : SpRn := if ¬ okS rs xss then (([], []), 50) else ((trD rs, trnL rs xss), 0)
/-- Compressed by columns. -/
def colsV (rs : List Rg) (xss : List (List Int)) : List Int × List Int × Int := if ¬ okS rs xss then ([], [], 50) else if rs.length ≠ 2 then ([], [], 2) else rowsV (trD rs) (trnL rs xss)
theorem trnS_b {rs : List Rg} {xss : List (List Int)} : (trnS rs xss).1.1.length ≤ 1000000 ∧ (trnS rs xss).1.2.length ≤ 1000000 ∧ ∀ x ∈ (trnS rs xss).1.2, x.length ≤ 1000000 := by
  unfold trnS
  by_cases h : okS rs xss
  · rw [if_neg (not_not_intro h)]
    obtain ⟨e1, e2, hok, hl2, hid⟩ := tr_facts h.1
    obtain ⟨hp, hT⟩ := trn_ex h
    have h1 := hok.2.1
    have h2 := hT.2.1
    exact ⟨by dsimp only; omega, by dsimp only; omega, fun y hy => by have := okS_len hT hy; omega⟩
  · rw [if_pos h]; simp
end Go.Proofs.Ytnhippfllgnngaa
