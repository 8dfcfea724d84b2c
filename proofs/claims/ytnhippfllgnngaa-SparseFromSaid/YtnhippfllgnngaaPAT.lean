/-
  A part of the proof of the claim that this folder bears.
-/
import Derived.Test.YtnhippfllgnngaaPAS
import Derived.Test.YtnhippfllgnngaaPAR
/- The text SpPlain8. -/
set_option linter.unusedVariables false
set_option linter.unusedSimpArgs false
/-! The reference's list of places. -/
namespace Go.Proofs.Ytnhippfllgnngaa
open Go Go.KK Dm
def pickC (W n k : Nat) (c : Int) : List Int := if 0 ≤ c ∧ c < (W : Int) ∧ (k : Int) < (n : Int) ∧ (k : Int) * (W : Int) + c < (n : Int) then [(k : Int) * (W : Int) + c] else []
def segA (starts : List Int) (k : Nat) : Nat := (max (starts.getD k 0) 0).toNat
def stpJ (starts cols : List Int) (k : Nat) : Nat := min (starts.getD (k + 1) 0).toNat cols.length - segA starts k
def genJ (W n : Nat) (cols : List Int) (k a j : Nat) : List Int := (List.range j).flatMap fun i => pickC W n k (cols.getD (a + i) 0)
def atF (W n : Nat) (starts cols : List Int) (k : Nat) : List Int := (List.range k).flatMap fun q => genJ W n cols q (segA starts q) (stpJ starts cols q)
theorem genJ_succ (W n : Nat) (cols : List Int) (k a j : Nat) : genJ W n cols k a (j + 1) = genJ W n cols k a j ++ pickC W n k (cols.getD (a + j) 0) := by unfold genJ; rw [List.range_succ, List.flatMap_append]; simp
theorem atF_succ (W n : Nat) (starts cols : List Int) (k : Nat) : atF W n starts cols (k + 1) = atF W n starts cols k ++ genJ W n cols k (segA starts k) (stpJ starts cols k) := by unfold atF; rw [List.range_succ, List.flatMap_append]; simp
theorem pickC_len (W n k : Nat) (c : Int) : (pickC W n k c).length ≤ 1 := by unfold pickC; split <;> simp
theorem genJ_len (W n : Nat) (cols : List Int) (k a : Nat) : ∀ j, (genJ W n cols k a j).length ≤ j
  | 0 => by simp [genJ]
  | j + 1 => by
    have h1 := genJ_len W n cols k a j
    have h2 := pickC_len W n k (cols.getD (a + j) 0)
    rw [genJ_succ, List.length_append]; omega
theorem atF_len (W n : Nat) (starts cols : List Int) (h : cols.length ≤ 400) : ∀ k, (atF W n starts cols k).length ≤ k * 400
  | 0 => by simp [atF]
  | k + 1 => by
    have h1 := atF_len W n starts cols h k
    have h2 := genJ_len W n cols k (segA starts k) (stpJ starts cols k)
    have h3 : stpJ starts cols k ≤ 400 := by unfold stpJ; omega
    rw [atF_succ, List.length_append]; omega
theorem pickC_mem {W n k : Nat} {c t : Int} (h : t ∈ pickC W n k c) : 0 ≤ t ∧ t < (n : Int) := by
  unfold pickC at h
  split at h
  · rename_i g
    rw [List.mem_singleton] at h
    subst h
    have := Int.mul_nonneg (Int.natCast_nonneg k) (Int.natCast_nonneg W)
    omega
  · cases h
theorem atF_mem {W n : Nat} {starts cols : List Int} {k : Nat} {t : Int} (h : t ∈ atF W n starts cols k) : 0 ≤ t ∧ t < (n : Int) := by
  unfold atF at h
  obtain ⟨q, _, h⟩ := List.mem_flatMap.1 h
  unfold genJ at h
  obtain ⟨i, _, h⟩ := List.mem_flatMap.1 h
  exact pickC_mem h
theorem atF_from {rs : List Rg} {starts cols : List Int} {R W : Nat} (hok : okD rs) (hl : rs.length = 2) (hR : R = cnt ((canD rs).getD 0 default)) (hW : W = cnt ((canD rs).getD 1 default)) (h : chkF R starts cols) (hg : goodC rs cols) : ∀ k, k ≤ R → atF W (cntD rs) starts cols k = ((fromK rs starts cols (starts.getD k 0).toNat).map (atS rs))
  | 0, _ => by rw [h.2.1]; rfl
  | k + 1, hk => by
    rw [atF_succ, atF_from hok hl hR hW h hg k (by omega)]
    have hsl := h.1
    have q0 := sortB_le h.2.2.2.2 k 0 (by omega) (by omega)
    have q1 := sortB_le h.2.2.2.2 (k + 1) k (by omega) (by omega)
    have q2 := sortB_le h.2.2.2.2 R (k + 1) hk (by omega)
    rw [h.2.1] at q0
    rw [h.2.2.1] at q2
    have ha : segA starts k = (starts.getD k 0).toNat := by unfold segA; rw [Int.max_eq_left q0]
    have hst : stpJ starts cols k = (starts.getD (k + 1) 0).toNat - (starts.getD k 0).toNat := by unfold stpJ; rw [ha]; omega
    have hne : rs ≠ [] := fun e => by rw [e] at hl; simp at hl
    have hcd := cntD_two (d := canD rs) (by rw [canD_len]; exact hl)
    rw [canD_cnt hok.2.2.1 hne, ← hR, ← hW] at hcd
    have step : ∀ j, (starts.getD k 0).toNat + j ≤ (starts.getD (k + 1) 0).toNat → (fromK rs starts cols (starts.getD k 0).toNat).map (atS rs) ++ genJ W (cntD rs) cols k (starts.getD k 0).toNat j = (fromK rs starts cols ((starts.getD k 0).toNat + j)).map (atS rs) := by
      intro j
      induction j with
      | zero => intro _; simp [genJ]
      | succ j ih =>
        intro hj
        rw [genJ_succ, ← List.append_assoc, ih (by omega)]
        obtain ⟨x, k', c, e1, hk', hc, h1, h2, h3, h4⟩ := from_at hok hl hR hW h hg (i := (starts.getD k 0).toNat + j) (by omega)
        have hkk : k' = k := by
          have r1 := rowAt_eq h (k := k') (i := (starts.getD k 0).toNat + j) hk' h1 h2
          have r2 := rowAt_eq h (k := k) (i := (starts.getD k 0).toNat + j) (by omega) (by omega) (by omega)
          omega
        subst hkk
        have hpl := plD_lt hok.2.2.1 h4
        have hat : atS rs x = ((k' * W + c : Nat) : Int) := by unfold atS; rw [h4]; rfl
        have hkn : k' < cntD rs := by
          have : k' ≤ k' * W := Nat.le_mul_of_pos_right _ (by omega)
          omega
        have hmul : (k' : Int) * (W : Int) = ((k' * W : Nat) : Int) := (Int.natCast_mul k' W).symm
        have hp : pickC W (cntD rs) k' (cols.getD ((starts.getD k' 0).toNat + j) 0) = [atS rs x] := by
          unfold pickC
          rw [h3, hmul, if_pos (by omega), hat]; rfl
        rw [hp, show (starts.getD k' 0).toNat + (j + 1) = (starts.getD k' 0).toNat + j + 1 from rfl, fromK_succ, List.map_append]
        have e2 : fromK rs starts cols ((starts.getD k' 0).toNat + j) ++ [ixD (canD rs) (rowAt starts ((starts.getD k' 0).toNat + j) * cnt ((canD rs).getD 1 default) + (cols.getD ((starts.getD k' 0).toNat + j) 0).toNat)] = fromK rs starts cols ((starts.getD k' 0).toNat + j) ++ [x] := by
          rw [← fromK_succ]
          unfold fromK at e1 ⊢
          rw [List.getElem?_map, List.getElem?_range (by omega)] at e1
          rw [List.range_succ, List.map_append]
          exact congrArg (fun z => _ ++ [z]) (Option.some.inj e1)
        have e3 := List.append_cancel_left e2
        rw [List.map_cons, List.map_nil, (List.cons.inj e3).1]
    rw [ha, hst, step _ (by omega)]
    congr 2
    omega
end Go.Proofs.Ytnhippfllgnngaa

/- The text SpPlain9. -/
set_option linter.unusedVariables false
set_option linter.unusedSimpArgs false
/-! The reference's FromRows is the program's. -/
namespace Go.Proofs.Ytnhippfllgnngaa
open Go Go.KK Dm
def atR_ (rs : List Rg) (starts cols : List Int) : List Int := if cols.length ≤ 400 then atF (cnt ((canD rs).getD 1 default)) (cntD rs) starts cols (starts.length - 1) else []
theorem from_ref {rs : List Rg} {starts cols : List Int} (hok : okD rs) (hl : rs.length = 2) :
    (rowsV rs (madeL rs (atR_ rs starts cols)) = (starts, cols, 0) → frmS rs starts cols = ((rs, madeL rs (atR_ rs starts cols)), 0)) ∧
    (¬ rowsV rs (madeL rs (atR_ rs starts cols)) = (starts, cols, 0) → frmS rs starts cols = (([], []), 5)) := by
  obtain ⟨-, hc0, -⟩ := one_ok hok (k := 0) (by omega)
  obtain ⟨out, hout⟩ : ∃ out, out = madeL rs (atR_ rs starts cols) := ⟨_, rfl⟩
  rw [← hout]
  constructor
  · intro h
    have hs : okS rs out := Classical.byContradiction fun g => by
      unfold rowsV at h
      rw [if_pos g] at h
      have h9 : (50 : Int) = 0 := congrArg (fun z : List Int × List Int × Int => z.2.2) h
      exact absurd h9 (by decide)
    rw [rowsV_eq hs hl hc0] at h
    have e1 : stsK (tabL (canD rs) out) 0 (cnt ((canD rs).getD 0 default)) = starts := congrArg (·.1) h
    have e2 : othK (tabL (canD rs) out) 0 (cnt ((canD rs).getD 0 default)) = cols := congrArg (·.2.1) h
    rw [oth_col hs hl rfl] at e2
    obtain ⟨g1, g2, g3⟩ := rows_from hs hl rfl
    rw [e1, e2] at g1 g3
    rw [e2] at g2
    unfold frmS
    rw [if_neg (not_not_intro hok), if_neg (not_not_intro hl), if_neg (not_not_intro ⟨g1, g2, by rw [g3]; exact hs⟩), g3]
  · intro h
    unfold frmS
    rw [if_neg (not_not_intro hok), if_neg (not_not_intro hl)]
    refine if_pos fun ⟨g1, g2, g3⟩ => h ?_
    have hat : atR_ rs starts cols = (fromK rs starts cols cols.length).map (atS rs) := by
      unfold atR_
      rw [if_pos g1.2.2.2.1, g1.1, Nat.add_sub_cancel, atF_from hok hl rfl rfl g1 g2 _ (Nat.le_refl _), g1.2.2.1]; rfl
    have ho : out = fromK rs starts cols cols.length := by
      rw [hout, hat]
      exact made_of hok (fun y hy => okS_some g3 hy) (okS_pw g3)
    obtain ⟨e1, e2⟩ := from_rows hl rfl g1 g2 g3
    rw [ho, rowsV_eq g3 hl hc0, oth_col g3 hl rfl, e1, e2]
end Go.Proofs.Ytnhippfllgnngaa
