/-
  A part of the proof of the claim that this folder bears.
-/
import Derived.Test.YtnhippfllgnngaaPAA
/- The text LPlain. -/
/-!
  Layouts, plain: the indexes of a domain in the order of a layout, and where one stands. No program in sight.
-/
set_option linter.unusedVariables false
set_option linter.unusedSimpArgs false
namespace Dm
def rowS : ByteArray := ⟨#[114, 111, 119, 115]⟩
def colS : ByteArray := ⟨#[99, 111, 108, 117, 109, 110, 115]⟩
def okL (s : ByteArray) : Prop := s = rowS ∨ s = colS
instance (s : ByteArray) : Decidable (okL s) := inferInstanceAs (Decidable (_ ∨ _))
def isC (s : ByteArray) : Bool := decide (s = colS)
/-- An index, turned as the layout turns it. -/
def ixL (c : Bool) (x : List Int) : List Int := if c = true then x.reverse else x
/-- A domain, turned. -/
def tuL (c : Bool) (rs : List Rg) : List Rg := if c = true then rs.reverse else rs
def ordL (c : Bool) (rs : List Rg) : List (List Int) := (idx (tuL c rs)).map (ixL c)
def offL (c : Bool) (rs : List Rg) (x : List Int) : Option Nat := plD (tuL c rs) (ixL c x)
theorem ixL_ixL (c : Bool) (x : List Int) : ixL c (ixL c x) = x := by unfold ixL; cases c <;> simp
theorem ixL_len (c : Bool) (x : List Int) : (ixL c x).length = x.length := by unfold ixL; cases c <;> simp
theorem tuL_len (c : Bool) (rs : List Rg) : (tuL c rs).length = rs.length := by unfold tuL; cases c <;> simp
theorem tuL_ok {c : Bool} {rs : List Rg} (h : okRs rs) : okRs (tuL c rs) := by
  unfold tuL
  cases c with
  | false => exact h
  | true => intro r hr; exact h r (List.mem_reverse.1 hr)
theorem ixL_inj {c : Bool} {x y : List Int} (h : ixL c x = ixL c y) : x = y := by rw [← ixL_ixL c x, h, ixL_ixL]
theorem off_iff {c : Bool} {rs : List Rg} (h : okRs rs) {x : List Int} {n : Nat} : offL c rs x = some n ↔ (ordL c rs)[n]? = some x := by
  unfold offL ordL
  rw [plD_iff (tuL_ok h), List.getElem?_map]
  constructor
  · intro e; rw [e]; simp [ixL_ixL]
  · intro e
    cases e2 : (idx (tuL c rs))[n]? with
    | none => rw [e2] at e; cases e
    | some y =>
      rw [e2] at e
      simp only [Option.map_some, Option.some.injEq] at e
      rw [← e, ixL_ixL]
theorem ord_len (c : Bool) (rs : List Rg) : (ordL c rs).length = cntD (tuL c rs) := by unfold ordL; rw [List.length_map, idx_len]
theorem off_lt {c : Bool} {rs : List Rg} (h : okRs rs) {x : List Int} {n : Nat} (e : offL c rs x = some n) : n < (ordL c rs).length :=
  (List.getElem?_eq_some_iff.1 ((off_iff h).1 e)).1
theorem ord_inj {c : Bool} {rs : List Rg} (h : okRs rs) {x : List Int} {n m : Nat} (h1 : (ordL c rs)[n]? = some x) (h2 : (ordL c rs)[m]? = some x) : n = m := by
  have e1 := (off_iff h).2 h1
  have e2 := (off_iff h).2 h2
  rw [e1] at e2; exact Option.some.inj e2
/-- What a search through the list finds. -/
def findL (l : List (List Int)) (x : List Int) : Int := match l.findIdx? (fun y => decide (y = x)) with | some i => (i : Int) | none => -1
theorem find_of {l : List (List Int)} {x : List Int} {k : Nat} (hk : k < l.length) (h : ∀ j, j < k → l[j]? ≠ some x) (e : l[k]? = some x) : l.findIdx? (fun y => decide (y = x)) = some k := by
  rw [List.findIdx?_eq_some_iff_getElem]
  rw [List.getElem?_eq_getElem hk] at e
  refine ⟨hk, decide_eq_true (Option.some.inj e), fun j hj => ?_⟩
  have := h j hj
  rw [List.getElem?_eq_getElem (by omega)] at this
  simpa using this
theorem find_no {l : List (List Int)} {x : List Int} (h : ∀ j, j < l.length → l[j]? ≠ some x) : l.findIdx? (fun y => decide (y = x)) = none := by
  rw [List.findIdx?_eq_none_iff]
  intro y hy
  obtain ⟨j, hj, ej⟩ := List.getElem_of_mem hy
  refine decide_eq_false fun e => h j hj ?_
  rw [List.getElem?_eq_getElem hj, ej, e]
theorem find_off {c : Bool} {rs : List Rg} (h : okRs rs) (x : List Int) : (ordL c rs).findIdx? (fun y => decide (y = x)) = offL c rs x := by
  cases e : offL c rs x with
  | none =>
    refine find_no fun j hj hx => ?_
    have := (off_iff h).2 hx
    rw [e] at this; cases this
  | some n =>
    have h1 := (off_iff h).1 e
    exact find_of (off_lt h e) (fun j hj hx => by have := ord_inj h hx h1; omega) h1
theorem findL_off {c : Bool} {rs : List Rg} (h : okRs rs) (x : List Int) : findL (ordL c rs) x = match offL c rs x with | some n => (n : Int) | none => -1 := by
  unfold findL; rw [find_off h]
/-- The place, 0 where there is none. -/
def offZ (c : Bool) (rs : List Rg) (x : List Int) : Nat := (offL c rs x).getD 0
def offsL (c : Bool) (d part : List Rg) : List Int := (ordL c part).map fun x => ((offZ c d x : Nat) : Int)
/-- Runs. -/
def runStep (out : List (Int × Int)) (n : Int) : List (Int × Int) := match out.getLast? with
  | some p => if p.1 + p.2 = n then out.set (out.length - 1) (p.1, p.2 + 1) else out ++ [(n, 1)]
  | none => out ++ [(n, 1)]
def runsOf (l : List Int) : List (Int × Int) := l.foldl runStep []
theorem runsOf_snoc (l : List Int) (n : Int) : runsOf (l ++ [n]) = runStep (runsOf l) n := by unfold runsOf; rw [List.foldl_append]; rfl
theorem runStep_len (out : List (Int × Int)) (n : Int) : (runStep out n).length ≤ out.length + 1 := by
  unfold runStep
  split
  · split <;> simp
  · simp
theorem runsOf_len : ∀ (l : List Int), (runsOf l).length ≤ l.length := by
  intro l
  have : ∀ (l : List Int) (out : List (Int × Int)), (l.foldl runStep out).length ≤ out.length + l.length := by
    intro l
    induction l with
    | nil => intro out; simp
    | cons n l ih =>
      intro out
      have h1 := ih (runStep out n)
      have h2 := runStep_len out n
      rw [List.foldl_cons, List.length_cons]; omega
  have := this l []
  simpa [runsOf] using this
end Dm

/- The text LPlain2. -/
/-!
  What is within what, plain.
-/
set_option linter.unusedVariables false
set_option linter.unusedSimpArgs false
namespace Dm
theorem at0 (r : Rg) : atR r 0 = fst r := by unfold atR; omega
theorem plR_some_at {r : Rg} (h : okR r) {x : Int} : (plR r x).isSome = true ↔ ∃ i : Nat, i < cnt r ∧ x = atR r (i : Int) := by
  constructor
  · intro e
    cases e2 : plR r x with
    | none => rw [e2] at e; cases e
    | some i => exact ⟨i, (plR_iff h).1 e2⟩
  · rintro ⟨i, h1, h2⟩; rw [(plR_iff h).2 ⟨h1, h2⟩]; rfl
/-- All members of r are in s. -/
def wiR (r s : Rg) : Prop := ∀ i : Nat, i < cnt r → (plR s (atR r (i : Int))).isSome = true
theorem wiR_iff {r s : Rg} (hr : okR r) (hs : okR s) (h0 : cntI r ≠ 0) : wiR r s ↔ ((plR s (fst r)).isSome = true ∧ (plR s (lastR r)).isSome = true) ∧ (cntI r = 1 ∨ Int.tmod r.st s.st = 0) := by
  have hc := cnt_eq hr
  have hcs := cnt_eq hs
  have hn := cntI_nonneg hr
  have hss := hs.2.2.2
  have hl : lastR r = atR r (((cnt r - 1 : Nat)) : Int) := by unfold lastR; congr 1; omega
  constructor
  · intro h
    have h1 := h 0 (by omega)
    rw [show ((0 : Nat) : Int) = 0 from rfl, at0] at h1
    have h2 := h (cnt r - 1) (by omega)
    rw [← hl] at h2
    refine ⟨⟨h1, h2⟩, ?_⟩
    by_cases h9 : cntI r = 1
    · exact .inl h9
    · right
      obtain ⟨j0, _, e0⟩ := (plR_some_at hs).1 h1
      obtain ⟨j1, _, e1⟩ := (plR_some_at hs).1 (h 1 (by omega))
      have e2 : atR r ((1 : Nat) : Int) = fst r + r.st := by unfold atR; omega
      rw [e2, e0] at e1
      unfold atR at e1
      have e3 : r.st = ((j1 : Int) - (j0 : Int)) * s.st := by rw [Int.sub_mul]; omega
      rw [e3]; exact Int.mul_tmod_left _ _
  · rintro ⟨⟨h1, h2⟩, h3⟩ i hi
    obtain ⟨j0, g0, e0⟩ := (plR_some_at hs).1 h1
    obtain ⟨jl, gl, el⟩ := (plR_some_at hs).1 h2
    rcases h3 with h3 | h3
    · rw [show i = 0 by omega, show ((0 : Nat) : Int) = 0 from rfl, at0]; exact h1
    · have hq := Int.mul_tdiv_add_tmod r.st s.st
      rw [h3, Int.add_zero] at hq
      obtain ⟨q, hqq⟩ : ∃ q, q = Int.tdiv r.st s.st := ⟨_, rfl⟩
      rw [← hqq, Int.mul_comm] at hq
      have hat : ∀ k : Int, atR r k = fst s + ((j0 : Int) + k * q) * s.st := fun k => by
        unfold atR
        rw [e0, ← hq]
        unfold atR
        rw [Int.add_mul, Int.mul_assoc]; omega
      have hjl : (jl : Int) = (j0 : Int) + ((cnt r - 1 : Nat) : Int) * q := by
        have h9 := hat ((cnt r - 1 : Nat) : Int)
        rw [← hl, el] at h9
        unfold atR at h9
        have h10 : (jl : Int) * s.st = ((j0 : Int) + ((cnt r - 1 : Nat) : Int) * q) * s.st := by omega
        exact Int.eq_of_mul_eq_mul_right hss h10
      have hb : 0 ≤ (j0 : Int) + (i : Int) * q ∧ (j0 : Int) + (i : Int) * q < cntI s := by
        by_cases hqp : 0 ≤ q
        · have h11 : 0 ≤ (i : Int) * q := Int.mul_nonneg (by omega) hqp
          have h12 : (i : Int) * q ≤ ((cnt r - 1 : Nat) : Int) * q := Int.mul_le_mul_of_nonneg_right (by omega) hqp
          omega
        · have h11 : (i : Int) * q ≤ 0 := Int.mul_nonpos_of_nonneg_of_nonpos (by omega) (by omega)
          have h12 : ((cnt r - 1 : Nat) : Int) * q ≤ (i : Int) * q := Int.mul_le_mul_of_nonpos_right (by omega) (by omega)
          omega
      refine (plR_some_at hs).2 ⟨((j0 : Int) + (i : Int) * q).toNat, by omega, ?_⟩
      rw [Int.toNat_of_nonneg hb.1]
      exact hat i
theorem plK_some {d : List Rg} {x : List Int} : ∀ {k : Nat}, (plK d x k).isSome = true ↔ ∀ j, j < k → (plR (d.getD j default) (x.getD j default)).isSome = true
  | 0 => by simp [plK]
  | k + 1 => by
    have ih := plK_some (d := d) (x := x) (k := k)
    unfold plK
    constructor
    · intro h j hj
      cases e1 : plK d x k with
      | none => rw [e1] at h; simp at h
      | some a =>
        cases e2 : plR (d.getD k default) (x.getD k default) with
        | none => rw [e1, e2] at h; simp at h
        | some i =>
          rcases Nat.lt_or_ge j k with hjk | hjk
          · exact (ih.1 (by rw [e1]; rfl)) j hjk
          · rw [show j = k by omega, e2]; rfl
    · intro h
      have h1 := ih.2 fun j hj => h j (by omega)
      have h2 := h k (by omega)
      cases e1 : plK d x k with
      | none => rw [e1] at h1; cases h1
      | some a =>
        cases e2 : plR (d.getD k default) (x.getD k default) with
        | none => rw [e2] at h2; cases h2
        | some i => rfl
theorem mem_idx {d : List Rg} (h : okRs d) {x : List Int} : x ∈ idx d ↔ x.length = d.length ∧ ∀ j, j < d.length → (plR (d.getD j default) (x.getD j default)).isSome = true := by
  rw [← plK_some]
  constructor
  · intro hm
    obtain ⟨n, hn, e⟩ := List.getElem_of_mem hm
    have h1 := (plD_iff h (x := x) (n := n)).2 (by rw [List.getElem?_eq_getElem hn, e])
    unfold plD at h1
    split at h1
    · rename_i hl; exact ⟨hl, by rw [h1]; rfl⟩
    · cases h1
  · rintro ⟨hl, hs⟩
    cases e : plK d x d.length with
    | none => rw [e] at hs; cases hs
    | some n =>
      have : plD d x = some n := by unfold plD; rw [if_pos hl, e]
      exact List.mem_of_getElem? ((plD_iff h).1 this)
/-- All indexes of a are of b. -/
def wiD (a b : List Rg) : Prop := ∀ x ∈ idx a, x ∈ idx b
theorem wiD_iff {a b : List Rg} (ha : okRs a) (hb : okRs b) (hl : a.length = b.length) (h0 : cntD a ≠ 0) : wiD a b ↔ ∀ k, k < a.length → wiR (a.getD k default) (b.getD k default) := by
  constructor
  · intro h k hk i hi
    -- an index with this number there, and the first ones elsewhere
    obtain ⟨x, hx⟩ : ∃ x : List Int, x = (List.range a.length).map fun j => if j = k then atR (a.getD k default) (i : Int) else atR (a.getD j default) 0 := ⟨_, rfl⟩
    have hxg : ∀ j, j < a.length → x.getD j default = if j = k then atR (a.getD k default) (i : Int) else atR (a.getD j default) 0 := fun j hj => by
      rw [hx, List.getD_eq_getElem?_getD, List.getElem?_map, List.getElem?_range hj]; rfl
    have hm : x ∈ idx a := (mem_idx ha).2 ⟨by rw [hx]; simp, fun j hj => by
      rw [hxg j hj]
      have hj2 := ha _ (getD_mem hj)
      have hp := cnt_pos (getD_mem hj) h0
      by_cases e : j = k
      · subst e; rw [if_pos rfl]; exact (plR_some_at hj2).2 ⟨i, hi, rfl⟩
      · rw [if_neg e]; exact (plR_some_at hj2).2 ⟨0, hp, rfl⟩⟩
    have h1 := ((mem_idx hb).1 (h x hm)).2 k (by omega)
    rw [hxg k hk, if_pos rfl] at h1
    exact h1
  · intro h x hx
    obtain ⟨h1, h2⟩ := (mem_idx ha).1 hx
    refine (mem_idx hb).2 ⟨by omega, fun j hj => ?_⟩
    obtain ⟨i, hi, e⟩ := (plR_some_at (ha _ (getD_mem (d := a) (k := j) (by omega)))).1 (h2 j (by omega))
    rw [e]
    exact h j (by omega) i hi
theorem wiD_none {a b : List Rg} (h0 : cntD a = 0) : wiD a b := fun x hx => by
  have : idx a = [] := List.eq_nil_of_length_eq_zero (by rw [idx_len, h0])
  rw [this] at hx; cases hx
theorem getD_rev {α : Type} [Inhabited α] {l : List α} {j : Nat} (h : j < l.length) : l.reverse.getD j default = l.getD (l.length - 1 - j) default := by
  rw [List.getD_eq_getElem?_getD, List.getD_eq_getElem?_getD, List.getElem?_reverse h]
theorem mem_ord {c : Bool} {rs : List Rg} (h : okRs rs) {x : List Int} : x ∈ ordL c rs ↔ x ∈ idx rs := by
  have e : x ∈ ordL c rs ↔ ixL c x ∈ idx (tuL c rs) := by
    unfold ordL
    rw [List.mem_map]
    constructor
    · rintro ⟨y, hy, rfl⟩; rw [ixL_ixL]; exact hy
    · intro hy; exact ⟨_, hy, ixL_ixL c x⟩
  rw [e]
  cases c with
  | false => exact Iff.rfl
  | true =>
    show x.reverse ∈ idx rs.reverse ↔ _
    rw [mem_idx h, mem_idx (d := rs.reverse) (fun r hr => h r (List.mem_reverse.1 hr)), List.length_reverse, List.length_reverse]
    constructor
    · rintro ⟨h1, h2⟩
      refine ⟨h1, fun j hj => ?_⟩
      have := h2 (rs.length - 1 - j) (by omega)
      rw [getD_rev (by omega), getD_rev (by omega), h1, show rs.length - 1 - (rs.length - 1 - j) = j by omega] at this
      exact this
    · rintro ⟨h1, h2⟩
      refine ⟨h1, fun j hj => ?_⟩
      rw [getD_rev hj, getD_rev (by omega), h1]
      exact h2 _ (by omega)
theorem ord_nodup {c : Bool} {rs : List Rg} (h : okRs rs) : (ordL c rs).Nodup := by
  rw [List.nodup_iff_pairwise_ne, List.pairwise_iff_getElem]
  intro i j hi hj hij e
  have := ord_inj h (c := c) (x := (ordL c rs)[j]) (n := i) (m := j) (by rw [List.getElem?_eq_getElem hi, e]) (List.getElem?_eq_getElem hj)
  omega
theorem off_of_mem {c : Bool} {rs : List Rg} (h : okRs rs) {x : List Int} (hx : x ∈ idx rs) : ∃ n, offL c rs x = some n := by
  obtain ⟨n, hn, e⟩ := List.getElem_of_mem ((mem_ord (c := c) h).2 hx)
  exact ⟨n, (off_iff h).2 (by rw [List.getElem?_eq_getElem hn, e])⟩
end Dm
