/-
  A part of the proof of the claim that this folder bears.
-/
import Derived.Test.YtnhippfllgnngaaPAN
import Derived.Test.YtnhippfllgnngaaPAH
import Derived.Test.YtnhippfllgnngaaPAO
import Derived.Test.YtnhippfllgnngaaPAI
import Derived.Test.YtnhippfllgnngaaKC
import Derived.Test.YtnhippfllgnngaaPAL
/- The text SpPlainD. -/
set_option linter.unusedVariables false
set_option linter.unusedSimpArgs false
namespace Go.Proofs.Ytnhippfllgnngaa
open Go Go.KK Dm
/-- One index added. -/
def a1S (rs : List Rg) (xss : List (List Int)) (x : List Int) : SpRn := if ¬ okS rs xss then (([], []), 50) else if (plV rs x).2 ≠ 0 then (([], []), 2) else if x ∈ xss then (([], []), 7) else
  if 400 < (madeL rs ((xss ++ [x]).map (atS rs))).length then (([], []), 4) else ((rs, madeL rs ((xss ++ [x]).map (atS rs))), 0)
/-- One index taken away. -/
def remS (rs : List Rg) (xss : List (List Int)) (x : List Int) : SpRn := if ¬ okS rs xss then (([], []), 50) else if ¬ x ∈ xss then (([], []), 5) else ((rs, xss.filter fun y => !decide (x = y)), 0)
end Go.Proofs.Ytnhippfllgnngaa

/- The text SM7. -/
set_option linter.unusedVariables false
set_option linter.unusedSimpArgs false
set_option maxRecDepth 10000
namespace Go.Proofs.Ytnhippfllgnngaa
open Go Go.KK Dm

theorem findL_neg2 {l : List (List Int)} {x : List Int} : 0 ≤ findL l x ↔ x ∈ l := by
  have := findL_neg (l := l) (x := x)
  constructor
  · intro h; exact Classical.byContradiction fun g => by have := this.2 g; omega
  · intro h; exact Int.not_lt.1 fun g => this.1 g h
end Go.Proofs.Ytnhippfllgnngaa

/- The text SK1. -/
set_option linter.unusedVariables false
set_option linter.unusedSimpArgs false
set_option maxRecDepth 10000
namespace Go.Proofs.Ytnhippfllgnngaa
open Go Go.KK Dm

/-- A pair's number. -/
def nthP (w : Nat) (p : Int × Int) : Int := if w = 0 then p.1 else p.2
def pickP (l : List (Int × Int)) (w k : Nat) : List Int := (l.filter fun p => decide (nthP w p = (k : Int))).map (nthP (1 - w))
def othK (l : List (Int × Int)) (w k : Nat) : List Int := (List.range k).flatMap (pickP l w)
def stsK (l : List (Int × Int)) (w k : Nat) : List Int := (List.range (k + 1)).map fun i => ((othK l w i).length : Int)
def tabL (d : List Rg) (xss : List (List Int)) : List (Int × Int) := xss.map fun x => (memS d 0 (x.getD 0 0), memS d 1 (x.getD 1 0))
end Go.Proofs.Ytnhippfllgnngaa

/- The text SpPlain4. -/
set_option linter.unusedVariables false
set_option linter.unusedSimpArgs false
/-! Compressed by rows: the counts and the reference's lists. -/
namespace Go.Proofs.Ytnhippfllgnngaa
open Go Go.KK Dm
end Go.Proofs.Ytnhippfllgnngaa
namespace Go.Proofs.Ytnhippfllgnngaa
open Go Go.KK Dm
end Go.Proofs.Ytnhippfllgnngaa

/- The text SK2. -/
set_option linter.unusedVariables false
set_option linter.unusedSimpArgs false
set_option maxRecDepth 10000
namespace Go.Proofs.Ytnhippfllgnngaa
open Go Go.KK Dm

end Go.Proofs.Ytnhippfllgnngaa

/- The text SK3. -/
set_option linter.unusedVariables false
set_option linter.unusedSimpArgs false
set_option maxRecDepth 10000
namespace Go.Proofs.Ytnhippfllgnngaa
open Go Go.KK Dm

def sortB (xs : List Int) : Prop := ∀ i, i < xs.length → 1 ≤ i → xs.getD (i - 1) 0 ≤ xs.getD i 0
instance (xs : List Int) : Decidable (sortB xs) := inferInstanceAs (Decidable (∀ i, i < xs.length → _))
end Go.Proofs.Ytnhippfllgnngaa

/- The text SpPlain5. -/
set_option linter.unusedVariables false
set_option linter.unusedSimpArgs false
/-! From lists that are compressed by rows. -/
namespace Go.Proofs.Ytnhippfllgnngaa
open Go Go.KK Dm
abbrev SpRF := (List Rg × List (List Int)) × Int
/-- The lists' form. -/
def chkF (R : Nat) (starts cols : List Int) : Prop := starts.length = R + 1 ∧ starts.getD 0 0 = 0 ∧ starts.getD R 0 = (cols.length : Int) ∧ cols.length ≤ 400 ∧ sortB starts
instance (R : Nat) (starts cols : List Int) : Decidable (chkF R starts cols) := inferInstanceAs (Decidable (_ ∧ _))
/-- The row that a place of the list of columns is in. -/
def rowAt (starts : List Int) (i : Nat) : Nat := (starts.countP fun s => decide (s ≤ (i : Int))) - 1
/-- The indexes that the lists name. -/
def fromK (rs : List Rg) (starts cols : List Int) (n : Nat) : List (List Int) := (List.range n).map fun i => ixD (canD rs) (rowAt starts i * cnt ((canD rs).getD 1 default) + (cols.getD i 0).toNat)
def goodC (rs : List Rg) (cols : List Int) : Prop := ∀ i, i < cols.length → 0 ≤ cols.getD i 0 ∧ cols.getD i 0 < (cnt ((canD rs).getD 1 default) : Int)
instance (rs : List Rg) (cols : List Int) : Decidable (goodC rs cols) := inferInstanceAs (Decidable (∀ i, i < cols.length → _))
def frmS (rs : List Rg) (starts cols : List Int) : SpRF := if ¬ okD rs then (([], []), 50) else if rs.length ≠ 2 then (([], []), 2) else
  if ¬ (chkF (cnt ((canD rs).getD 0 default)) starts cols ∧ goodC rs cols ∧ okS rs (fromK rs starts cols cols.length)) then (([], []), 5) else ((rs, fromK rs starts cols cols.length), 0)
end Go.Proofs.Ytnhippfllgnngaa

/- The text SK4. -/
set_option linter.unusedVariables false
set_option linter.unusedSimpArgs false
set_option maxRecDepth 10000
namespace Go.Proofs.Ytnhippfllgnngaa
open Go Go.KK Dm

end Go.Proofs.Ytnhippfllgnngaa

/- The text SpPlain6. -/
set_option linter.unusedVariables false
set_option linter.unusedSimpArgs false
/-! The reference's way from lists that are compressed by rows. -/
namespace Go.Proofs.Ytnhippfllgnngaa
open Go Go.KK Dm
end Go.Proofs.Ytnhippfllgnngaa

/- The text SpPlainE. -/
set_option linter.unusedVariables false
set_option linter.unusedSimpArgs false
namespace Go.Proofs.Ytnhippfllgnngaa
open Go Go.KK Dm
theorem plK_some {d : List Rg} {x : List Int} : ∀ {k : Nat}, (plK d x k).isSome = true ↔ ∀ j, j < k → (plR (d.getD j default) (x.getD j default)).isSome = true
  | 0 => by simp [plK]
  | k + 1 => by
    have ih := plK_some (d := d) (x := x) (k := k)
    constructor
    · intro hs j hj
      unfold plK at hs
      cases e1 : plK d x k with
      | none => rw [e1] at hs; simp at hs
      | some a =>
        cases e2 : plR (d.getD k default) (x.getD k default) with
        | none => rw [e1, e2] at hs; simp at hs
        | some i =>
          by_cases e : j = k
          · subst e; rw [e2]; rfl
          · exact ih.1 (by rw [e1]; rfl) j (by omega)
    · intro hall
      obtain ⟨a, ha⟩ := Option.isSome_iff_exists.1 (ih.2 fun j hj => hall j (by omega))
      obtain ⟨i, hi⟩ := Option.isSome_iff_exists.1 (hall k (by omega))
      unfold plK; rw [ha, hi]; rfl
def trnL (rs : List Rg) (xss : List (List Int)) : List (List Int) := madeL (trD rs) ((xss.map List.reverse).map (atS (trD rs)))
end Go.Proofs.Ytnhippfllgnngaa

/- The text SpPlainG. -/
set_option linter.unusedVariables false
set_option linter.unusedSimpArgs false
namespace Go.Proofs.Ytnhippfllgnngaa
open Go Go.KK Dm
/-- Two domains of the same indexes. -/
def samD (rs ss : List Rg) : Prop := okD rs ∧ okD ss ∧ canD rs = canD ss
instance (rs ss : List Rg) : Decidable (samD rs ss) := inferInstanceAs (Decidable (_ ∧ _ ∧ _))
theorem idx_uniq {d : List Rg} (h : okRs d) {n m : Nat} {x : List Int} (h1 : (idx d)[n]? = some x) (h2 : (idx d)[m]? = some x) : n = m := by
  have a1 := (plD_iff h).2 h1
  have a2 := (plD_iff h).2 h2
  rw [a1] at a2; exact Option.some.inj a2
theorem canR_of {r s : Rg} (hr : okR r) (hs : okR s) (hc : cnt r = cnt s) (h0 : cnt r ≠ 0) (h : ∀ i : Nat, i < cnt r → atR r (i : Int) = atR s (i : Int)) : canR r = canR s := by
  have hn := cntI_nonneg hr
  have hn2 := cntI_nonneg hs
  have hci : cntI r = cntI s := by unfold cnt at hc; omega
  have hcr : cnt r = (cntI r).toNat := rfl
  have hf : fst r = fst s := by have := h 0 (by omega); unfold atR at this; simpa using this
  have h0' : cntI r ≠ 0 := fun e => h0 (by rw [hcr, e]; rfl)
  by_cases h1 : cntI r = 1
  · unfold canR
    rw [if_neg h0', if_pos h1, if_neg (by rw [← hci]; exact h0'), if_pos (by rw [← hci]; exact h1), hf]
  · have hst : r.st = s.st := by have := h 1 (by omega); unfold atR at this; rw [hf] at this; simp only [Int.natCast_one, Int.one_mul] at this; omega
    have hl : lastR r = lastR s := by unfold lastR atR; rw [hci, hf, hst]
    unfold canR
    rw [if_neg h0', if_neg h1, if_neg (by rw [← hci]; exact h0'), if_neg (by rw [← hci]; exact h1), hf, hl, hst]
theorem add_inj {d e : List Rg} {r s : Rg} (hd : okRs d) (he : okRs e) (hr : okR r) (hs : okR s) (hl : d.length = e.length) (hne : cntD (d ++ [r]) ≠ 0) (h : idx (d ++ [r]) = idx (e ++ [s])) : idx d = idx e ∧ canR r = canR s := by
  have hlen := congrArg List.length h
  rw [idx_len, idx_len] at hlen
  rw [cntD_snoc] at hne hlen
  rw [cntD_snoc] at hlen
  have hcr : 0 < cnt r := Nat.pos_of_ne_zero fun g => hne (by rw [g, Nat.mul_zero])
  have hcs : 0 < cnt s := Nat.pos_of_ne_zero fun g => by rw [g, Nat.mul_zero] at hlen; exact hne hlen
  have hcd : 0 < cntD d := Nat.pos_of_ne_zero fun g => hne (by rw [g, Nat.zero_mul])
  have hce : 0 < cntD e := Nat.pos_of_ne_zero fun g => by rw [g, Nat.zero_mul] at hlen; exact hne hlen
  have key : ∀ n, ((idx d)[n / cnt r]?).map (fun o => o ++ [atR r ((n % cnt r : Nat) : Int)]) = ((idx e)[n / cnt s]?).map (fun o => o ++ [atR s ((n % cnt s : Nat) : Int)]) := fun n => by
    have := congrArg (fun l : List (List Int) => l[n]?) h
    simp only [idx_snoc] at this
    rwa [addD_get hcr, addD_get hcs] at this
  have d0 := ixD_get (rs := d) hcd
  have e0 := ixD_get (rs := e) hce
  have rl : ∀ {q : List Rg} {n : Nat} {x : List Int}, (idx q)[n]? = some x → x.length = q.length := fun {q n x} hx => idx_row_len (d := q) (n := n) (k := q.length) (Nat.le_refl _) (by rw [List.take_length]; exact hx)
  have app : ∀ {o o' : List Int} {a b : Int}, o.length = o'.length → o ++ [a] = o' ++ [b] → o = o' ∧ a = b := fun {o o' a b} hl2 g => by
    obtain ⟨g1, g2⟩ := List.append_inj g hl2
    exact ⟨g1, by simpa using g2⟩
  have h00 : ixD d 0 = ixD e 0 := by
    have := key 0
    rw [Nat.zero_div, Nat.zero_div, d0, e0] at this
    simp only [Option.map_some, Option.some.injEq] at this
    exact (app (by rw [rl d0, rl e0, hl]) this).1
  have hcc : cnt r = cnt s := by
    rcases Nat.lt_trichotomy (cnt r) (cnt s) with g | g | g
    · exfalso
      have := key (cnt r)
      rw [Nat.div_self hcr, Nat.div_eq_of_lt g, e0] at this
      cases e1 : (idx d)[1]? with
      | none => rw [e1] at this; simp at this
      | some o =>
        rw [e1] at this
        simp only [Option.map_some, Option.some.injEq] at this
        have := (app (by rw [rl e1, rl e0, hl]) this).1
        rw [this, ← h00] at e1
        exact absurd (idx_uniq hd e1 d0) (by decide)
    · exact g
    · exfalso
      have := key (cnt s)
      rw [Nat.div_self hcs, Nat.div_eq_of_lt g, d0] at this
      cases e1 : (idx e)[1]? with
      | none => rw [e1] at this; simp at this
      | some o =>
        rw [e1] at this
        simp only [Option.map_some, Option.some.injEq] at this
        have := (app (by rw [rl e1, rl d0, hl]) this).1
        rw [← this, h00] at e1
        exact absurd (idx_uniq he e1 e0) (by decide)
  refine ⟨List.ext_getElem? fun q => ?_, canR_of hr hs hcc (by omega) fun i hi => ?_⟩
  · have := key (q * cnt r)
    rw [Nat.mul_div_cancel _ hcr, hcc, Nat.mul_div_cancel _ hcs] at this
    cases e1 : (idx d)[q]? with
    | none =>
      rw [e1] at this
      cases e2 : (idx e)[q]? with
      | none => rfl
      | some o => rw [e2] at this; simp at this
    | some o =>
      rw [e1] at this
      cases e2 : (idx e)[q]? with
      | none => rw [e2] at this; simp at this
      | some o' =>
        rw [e2] at this
        simp only [Option.map_some, Option.some.injEq] at this
        rw [(app (by rw [rl e1, rl e2, hl]) this).1]
  · have := key i
    rw [Nat.div_eq_of_lt hi, Nat.div_eq_of_lt (by omega), d0, e0, Nat.mod_eq_of_lt hi, Nat.mod_eq_of_lt (by omega)] at this
    simp only [Option.map_some, Option.some.injEq] at this
    exact (app (by rw [rl d0, rl e0, hl]) this).2
theorem idx_can : ∀ (n : Nat) {d e : List Rg}, d.length = n → e.length = n → okRs d → okRs e → cntD d ≠ 0 → idx d = idx e → d.map canR = e.map canR
  | 0, d, e, h1, h2, _, _, _, _ => by rw [List.eq_nil_of_length_eq_zero h1, List.eq_nil_of_length_eq_zero h2]
  | n + 1, d, e, h1, h2, hd, he, hc, h => by
    rcases List.eq_nil_or_concat d with rfl | ⟨d', r, rfl⟩
    · simp at h1
    rcases List.eq_nil_or_concat e with rfl | ⟨e', s, rfl⟩
    · simp at h2
    simp only [List.concat_eq_append] at *
    have l1 : d'.length = n := by simpa using h1
    have l2 : e'.length = n := by simpa using h2
    have o1 : okRs d' := fun q hq => hd q (List.mem_append_left _ hq)
    have o2 : okRs e' := fun q hq => he q (List.mem_append_left _ hq)
    obtain ⟨a, b⟩ := add_inj o1 o2 (hd r (by simp)) (he s (by simp)) (by omega) hc h
    have hc' : cntD d' ≠ 0 := fun g => hc (by rw [cntD_snoc, g, Nat.zero_mul])
    rw [List.map_append, List.map_append, idx_can n l1 l2 o1 o2 hc' a, List.map_singleton, List.map_singleton, b]
theorem okD_nn {d : List Rg} (h : okD d) : d ≠ [] := fun e => by have := h.1; rw [e] at this; simp at this
theorem sam_pl {rs ss : List Rg} (h : samD rs ss) (x : List Int) : plD rs x = plD ss x := by
  rw [← plD_can h.1.2.2.1 (okD_nn h.1), ← plD_can h.2.1.2.2.1 (okD_nn h.2.1), h.2.2]
theorem sam_iff {rs ss : List Rg} (h1 : okD rs) (h2 : okD ss) : samD rs ss ↔ rs.length = ss.length ∧ idx rs = idx ss := by
  constructor
  · intro h
    refine ⟨by rw [← canD_len rs, ← canD_len ss, h.2.2], List.ext_getElem? fun n => ?_⟩
    have key : ∀ x, (idx rs)[n]? = some x ↔ (idx ss)[n]? = some x := fun x => by rw [← plD_iff h1.2.2.1, ← plD_iff h2.2.2.1, sam_pl h]
    cases e : (idx rs)[n]? with
    | some x => exact ((key x).1 e).symm
    | none =>
      cases e2 : (idx ss)[n]? with
      | none => rfl
      | some x => rw [(key x).2 e2] at e; cases e
  · rintro ⟨hl, h⟩
    refine ⟨h1, h2, ?_⟩
    have hc : cntD rs = cntD ss := by have := congrArg List.length h; rwa [idx_len, idx_len] at this
    unfold canD
    by_cases h0 : cntD rs = 0
    · rw [if_pos h0, if_pos (by rw [← hc]; exact h0)]
      have m : ∀ l : List Rg, l.map (fun _ => none3) = List.replicate l.length none3 := fun l => by simp [List.map_const']
      rw [m, m, hl]
    · rw [if_neg h0, if_neg (by rw [← hc]; exact h0)]
      exact idx_can rs.length rfl hl.symm h1.2.2.1 h2.2.2.1 h0 h
def twoS (rs : List Rg) (xss : List (List Int)) (ss : List Rg) (yss : List (List Int)) : Int := if ¬ (okS rs xss ∧ okS ss yss) then 50 else if ¬ samD rs ss then 2 else 0
/-- What both have. -/
def meetS (rs : List Rg) (xss : List (List Int)) (ss : List Rg) (yss : List (List Int)) : SpRn := if twoS rs xss ss yss ≠ 0 then (([], []), twoS rs xss ss yss) else ((rs, xss.filter fun x => decide (x ∈ yss)), 0)
def joinS (rs : List Rg) (xss : List (List Int)) (ss : List Rg) (yss : List (List Int)) : SpRn := if twoS rs xss ss yss ≠ 0 then (([], []), twoS rs xss ss yss) else addS rs xss yss
theorem twoS_ok {rs ss : List Rg} {xss yss : List (List Int)} (h : twoS rs xss ss yss = 0) : okS rs xss ∧ okS ss yss ∧ samD rs ss := by
  unfold twoS at h
  by_cases h1 : okS rs xss ∧ okS ss yss
  · rw [if_neg (not_not_intro h1)] at h
    by_cases h2 : samD rs ss
    · exact ⟨h1.1, h1.2, h2⟩
    · rw [if_pos h2] at h; cases h
  · rw [if_pos h1] at h; cases h
end Go.Proofs.Ytnhippfllgnngaa
