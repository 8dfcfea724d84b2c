/-
  A part of the proof of the claim that this folder bears.
-/
import Derived.Test.YtnhippfllgnngaaPAT
/- The text LPlain4. -/
set_option linter.unusedVariables false
set_option linter.unusedSimpArgs false
/-! The laws of layouts, in plain Lean. -/
namespace Go.Proofs.Ytnhippfllgnngaa
open Go Go.KK Dm
/-! The sanity check. -/
def awD : List Rg := [⟨1, 3, 1⟩, ⟨1, 4, 1⟩]
def awP : List Rg := [⟨2, 3, 1⟩, ⟨2, 3, 1⟩]
theorem aw_run : runV rowS awD awP = ([(5, 2), (9, 2)], 0) := by decide +kernel
/-! There and back. -/
theorem getD_of {α : Type} {l : List α} {k : Nat} {x d : α} (h : l[k]? = some x) : l.getD k d = x := by rw [List.getD_eq_getElem?_getD, h]; rfl
theorem offZ_of {c : Bool} {rs : List Rg} (h : okRs rs) {x : List Int} {k : Nat} (hx : (ordL c rs)[k]? = some x) : offZ c rs x = k := by unfold offZ; rw [(off_iff h).2 hx]; rfl
theorem pick_len (c : Bool) (rs : List Rg) (xs : List Int) (l : List (List Int)) : (pickV c rs xs l).length = l.length := by simp [pickV]
theorem pick_getD {c : Bool} {rs : List Rg} {xs : List Int} {l : List (List Int)} {k : Nat} {x : List Int} (hx : l[k]? = some x) : (pickV c rs xs l).getD k 0 = xs.getD (offZ c rs x) 0 := by
  unfold pickV; exact getD_of (by rw [List.getElem?_map, hx]; rfl)
theorem list_eq_of {α : Type} {l m : List α} (d : α) (hl : l.length = m.length) (h : ∀ k, k < l.length → l.getD k d = m.getD k d) : l = m := by
  apply List.ext_getElem? 
  intro k
  by_cases hk : k < l.length
  · have := h k hk
    rw [getD_at d hk, getD_at d (by omega : k < m.length), this]
  · rw [List.getElem?_eq_none (by omega), List.getElem?_eq_none (by omega)]
theorem ord_at {c : Bool} {rs : List Rg} {k : Nat} (h : k < cntD rs) : ∃ x, (ordL c rs)[k]? = some x := ⟨_, List.getElem?_eq_getElem (by rw [ord_len2]; exact h)⟩
theorem turn_back {c1 c2 : Bool} {rs : List Rg} (h : okRs rs) {xs : List Int} (hl : xs.length = cntD rs) : pickV c2 rs (pickV c1 rs xs (ordL c2 rs)) (ordL c1 rs) = xs := by
  refine list_eq_of 0 (by rw [pick_len, ord_len2, hl]) fun k hk => ?_
  rw [pick_len, ord_len2] at hk
  obtain ⟨x, hx⟩ := ord_at (c := c1) hk
  rw [pick_getD hx]
  have hm := (mem_ord h).1 (List.mem_of_getElem? hx)
  obtain ⟨hz1, hz2⟩ := off_z (c := c2) h hm
  rw [pick_getD ((off_iff h).1 hz1), offZ_of h hx]
theorem trn_back {lay lay2 : ByteArray} {rs : List Rg} {xs : List Int} (h : (trnV lay lay2 rs xs).2 = 0) : trnV lay2 lay rs (trnV lay lay2 rs xs).1 = (xs, 0) := by
  unfold trnV at h
  by_cases h1 : ask21 lay lay2 rs = 0
  · rw [if_neg (not_not_intro h1)] at h
    obtain ⟨g0, g1, g2⟩ := ask21_ok h1
    by_cases h2 : xs.length = cntD rs
    · have h3 : ask21 lay2 lay rs = 0 := by unfold ask21; rw [if_neg (not_not_intro ⟨g1, g0⟩), if_neg (not_not_intro g2)]
      have e1 : trnV lay lay2 rs xs = (pickV (isC lay) rs xs (ordL (isC lay2) rs), 0) := by unfold trnV; rw [if_neg (not_not_intro h1), if_neg (not_not_intro h2)]
      rw [e1]; dsimp only
      unfold trnV
      rw [if_neg (not_not_intro h3), if_neg (not_not_intro (by rw [pick_len, ord_len2])), turn_back g2.2.2.1 h2]
    · rw [if_pos h2] at h; cases h
  · rw [if_pos h1] at h; exact absurd h h1
theorem grow_len (c : Bool) (rs : List Rg) (xs : List Int) (l : List (List Int)) : (growV c rs xs l).length = l.length := by simp [growV]
theorem grow_getD {c : Bool} {rs : List Rg} {xs : List Int} {l : List (List Int)} {k : Nat} {x : List Int} (hx : l[k]? = some x) : (growV c rs xs l).getD k 0 = rsz1 xs (offL c rs x) := by
  unfold growV; exact getD_of (by rw [List.getElem?_map, hx]; rfl)
theorem rsz_back {lay : ByteArray} {rs ss : List Rg} {xs : List Int} (h : (rszV lay rs xs ss).2 = 0) (hw : wiD rs ss) : rszV lay ss (rszV lay rs xs ss).1 rs = (xs, 0) := by
  unfold rszV at h
  by_cases h1 : ask2 lay rs ss = 0
  · rw [if_neg (not_not_intro h1)] at h
    obtain ⟨g0, g1, g2⟩ := ask2_ok h1
    by_cases h2 : xs.length ≠ cntD rs ∨ rs.length ≠ ss.length
    · rw [if_pos h2] at h; cases h
    · have h21 : xs.length = cntD rs := Classical.byContradiction fun g => h2 (.inl g)
      have h22 : rs.length = ss.length := Classical.byContradiction fun g => h2 (.inr g)
      have h3 : ask2 lay ss rs = 0 := by unfold ask2; rw [if_neg (not_not_intro g0), if_neg (not_not_intro ⟨g2, g1⟩)]
      have e1 : rszV lay rs xs ss = (growV (isC lay) rs xs (ordL (isC lay) ss), 0) := by unfold rszV; rw [if_neg (not_not_intro h1), if_neg h2]
      rw [e1]; dsimp only
      unfold rszV
      rw [if_neg (not_not_intro h3), if_neg (by rintro (e | e); exact e (by rw [grow_len, ord_len2]); exact e h22.symm)]
      refine congrArg (·, (0 : Int)) (list_eq_of 0 (by rw [grow_len, ord_len2, h21]) fun k hk => ?_)
      rw [grow_len, ord_len2] at hk
      obtain ⟨x, hx⟩ := ord_at (c := isC lay) hk
      have hm := hw x ((mem_ord g1.2.2.1).1 (List.mem_of_getElem? hx))
      obtain ⟨hz1, hz2⟩ := off_z (c := isC lay) g2.2.2.1 hm
      rw [grow_getD hx, hz1]
      show (growV _ _ _ _).getD _ 0 = _
      rw [grow_getD ((off_iff g2.2.2.1).1 hz1), (off_iff g1.2.2.1).2 hx]; rfl
  · rw [if_pos h1] at h; exact absurd h h1
theorem lay_at {c : Bool} {rs ss : List Rg} (hd : okRs rs) (hp : okRs ss) (hw : wiD ss rs) {xs ys : List Int} (hl : xs.length = cntD rs) : ∀ m, m ≤ cntD ss → ∀ k x, k < m → (ordL c ss)[k]? = some x → (layL c rs ss xs ys m).getD (offZ c rs x) 0 = ys.getD k 0
  | 0, _, k, x, hk, _ => absurd hk (Nat.not_lt_zero k)
  | m + 1, hm, k, x, hk, hx => by
    obtain ⟨y, hy⟩ := ord_at (c := c) (by omega : m < cntD ss)
    rw [layL_succ hy]
    have hxz := off_z (c := c) hd (hw x ((mem_ord hp).1 (List.mem_of_getElem? hx)))
    have hyz := off_z (c := c) hd (hw y ((mem_ord hp).1 (List.mem_of_getElem? hy)))
    have hll := layL_len c rs ss xs ys m
    rw [List.getD_eq_getElem?_getD, List.getElem?_set]
    by_cases e : k = m
    · subst e
      rw [hx] at hy
      obtain rfl := Option.some.inj hy
      rw [if_pos rfl, if_pos (by omega)]; rfl
    · have hne : offZ c rs y ≠ offZ c rs x := fun he => by
        have a1 := (off_iff hd).1 hxz.1
        have a2 := (off_iff hd).1 hyz.1
        rw [he, a1] at a2
        obtain rfl := Option.some.inj a2
        exact e (ord_inj hp hx hy)
      rw [if_neg hne, ← List.getD_eq_getElem?_getD]
      exact lay_at hd hp hw hl m (by omega) k x (by omega) hx
theorem lay_own {c : Bool} {rs ss : List Rg} (hd : okRs rs) (hp : okRs ss) (hw : wiD ss rs) {xs : List Int} (hl : xs.length = cntD rs) : ∀ m, m ≤ cntD ss → layL c rs ss xs (pickV c rs xs (ordL c ss)) m = xs
  | 0, _ => rfl
  | m + 1, hm => by
    obtain ⟨y, hy⟩ := ord_at (c := c) (by omega : m < cntD ss)
    rw [layL_succ hy, lay_own hd hp hw hl m (by omega), pick_getD hy]
    have hyz := off_z (c := c) hd (hw y ((mem_ord hp).1 (List.mem_of_getElem? hy)))
    apply List.ext_getElem?
    intro j
    rw [List.getElem?_set]
    split
    · rename_i e; subst e; rw [if_pos (by omega), getD_at 0 (by omega)]
    · rfl
theorem layV_ok {lay : ByteArray} {rs ss : List Rg} {xs ys : List Int} (h : (layV lay rs xs ss ys).2 = 0) : wthV lay rs ss = 0 ∧ xs.length = cntD rs ∧ ys.length = cntD ss := by
  unfold layV at h
  by_cases h1 : wthV lay rs ss = 0
  · rw [if_neg (not_not_intro h1)] at h
    by_cases h2 : xs.length ≠ cntD rs ∨ ys.length ≠ cntD ss
    · rw [if_pos h2] at h; cases h
    · exact ⟨h1, Classical.byContradiction fun g => h2 (.inl g), Classical.byContradiction fun g => h2 (.inr g)⟩
  · rw [if_pos h1] at h; exact absurd h h1
theorem cutV_ok {lay : ByteArray} {rs ss : List Rg} {xs : List Int} (h : (cutV lay rs xs ss).2 = 0) : wthV lay rs ss = 0 ∧ xs.length = cntD rs := by
  unfold cutV at h
  by_cases h1 : wthV lay rs ss = 0
  · rw [if_neg (not_not_intro h1)] at h
    by_cases h2 : xs.length = cntD rs
    · exact ⟨h1, h2⟩
    · rw [if_pos h2] at h; cases h
  · rw [if_pos h1] at h; exact absurd h h1
theorem cut_lay {lay : ByteArray} {rs ss : List Rg} {xs ys : List Int} (h : (layV lay rs xs ss ys).2 = 0) : cutV lay rs (layV lay rs xs ss ys).1 ss = (ys, 0) := by
  obtain ⟨h1, h2, h3⟩ := layV_ok h
  obtain ⟨g1, g2, g3, hle, hw⟩ := wthV_ok h1
  have e1 : layV lay rs xs ss ys = (layL (isC lay) rs ss xs ys (ordL (isC lay) ss).length, 0) := by unfold layV; rw [if_neg (not_not_intro h1), if_neg (by rintro (e | e); exact e h2; exact e h3)]
  rw [e1]; dsimp only
  unfold cutV
  rw [if_neg (not_not_intro h1), if_neg (not_not_intro (by rw [layL_len, h2]))]
  refine congrArg (·, (0 : Int)) (list_eq_of 0 (by rw [pick_len, ord_len2, h3]) fun k hk => ?_)
  rw [pick_len, ord_len2] at hk
  obtain ⟨x, hx⟩ := ord_at (c := isC lay) hk
  rw [pick_getD hx, ord_len2]
  exact lay_at g2.2.2.1 g3.2.2.1 hw h2 _ (Nat.le_refl _) k x hk hx
theorem lay_cut {lay : ByteArray} {rs ss : List Rg} {xs : List Int} (h : (cutV lay rs xs ss).2 = 0) : layV lay rs xs ss (cutV lay rs xs ss).1 = (xs, 0) := by
  obtain ⟨h1, h2⟩ := cutV_ok h
  obtain ⟨g1, g2, g3, hle, hw⟩ := wthV_ok h1
  have e1 : cutV lay rs xs ss = (pickV (isC lay) rs xs (ordL (isC lay) ss), 0) := by unfold cutV; rw [if_neg (not_not_intro h1), if_neg (not_not_intro h2)]
  rw [e1]; dsimp only
  unfold layV
  rw [if_neg (not_not_intro h1), if_neg (by rintro (e | e); exact e h2; exact e (by rw [pick_len, ord_len2])), ord_len2, lay_own g2.2.2.1 g3.2.2.1 hw h2 _ (Nat.le_refl _)]
theorem ofV_ixV {lay : ByteArray} {rs : List Rg} {i : Int} (h : (ixV lay rs i).2 = 0) : ofV lay rs (ixV lay rs i).1 = (i, 0) := by
  unfold ixV at h
  by_cases h1 : ask1 lay rs = 0
  · rw [if_neg (not_not_intro h1)] at h
    obtain ⟨g1, g2⟩ := ask1_ok h1
    by_cases h2 : i < 0 ∨ (cntD rs : Int) ≤ i
    · rw [if_pos h2] at h; cases h
    · have e1 : ixV lay rs i = (((ordL (isC lay) rs)[i.toNat]?).getD [], 0) := by unfold ixV; rw [if_neg (not_not_intro h1), if_neg h2]
      obtain ⟨x, hx⟩ := ord_at (c := isC lay) (rs := rs) (k := i.toNat) (by omega)
      rw [e1, hx]
      unfold ofV
      rw [if_neg (not_not_intro h1)]
      show (match offL (isC lay) rs x with | some n => ((n : Int), (0 : Int)) | none => (0, 2)) = _
      rw [(off_iff g2.2.2.1).2 hx]
      show ((i.toNat : Int), (0 : Int)) = _
      rw [Int.toNat_of_nonneg (by omega)]
  · rw [if_pos h1] at h; exact absurd h h1
/-! Runs do not touch. -/
def endR (R : List (Int × Int)) (i : Nat) : Int := if i = 0 then -1 else (R.getD (i - 1) (0, 0)).1 + (R.getD (i - 1) (0, 0)).2
def sumR (R : List (Int × Int)) (i : Nat) : Int := ((R.take i).map (·.2)).sum
theorem sumR_succ {R : List (Int × Int)} {i : Nat} {p : Int × Int} (h : R[i]? = some p) : sumR R (i + 1) = sumR R i + p.2 := by
  unfold sumR; rw [take_get h]; simp
def goodR (R : List (Int × Int)) : Prop := ∀ i p, R[i]? = some p → 1 ≤ p.2 ∧ endR R i < p.1
theorem endR_app {R S : List (Int × Int)} {i : Nat} (h : i ≤ R.length) : endR (R ++ S) i = endR R i := by
  unfold endR
  by_cases e : i = 0
  · rw [if_pos e, if_pos e]
  · rw [if_neg e, if_neg e, List.getD_eq_getElem?_getD, List.getD_eq_getElem?_getD, List.getElem?_append_left (by omega)]
theorem snoc_ind {α : Type} {P : List α → Prop} (h0 : P []) (h1 : ∀ l z, P l → P (l ++ [z])) (l : List α) : P l := by
  have : ∀ m : List α, P m.reverse := by
    intro m
    induction m with
    | nil => exact h0
    | cons z m ih => rw [List.reverse_cons]; exact h1 _ _ ih
  have h := this l.reverse
  rwa [List.reverse_reverse] at h
theorem run_good : ∀ (l : List Int), l.Pairwise (· < ·) → (∀ z ∈ l, 0 ≤ z) → goodR (runsOf l) ∧ sumR (runsOf l) (runsOf l).length = (l.length : Int) ∧ (∀ z, l.getLast? = some z → (runsOf l).length ≠ 0 ∧ endR (runsOf l) (runsOf l).length = z + 1) ∧ (l = [] → runsOf l = []) := by
  refine snoc_ind ?_ ?_
  · intro _ _; exact ⟨fun i p h => by simp [runsOf] at h, rfl, fun z h => by simp at h, fun _ => rfl⟩
  · intro l z ih hp h0
    obtain ⟨i1, i2, i3, i4⟩ := ih (List.pairwise_append.1 hp).1 (fun y hy => h0 y (List.mem_append_left _ hy))
    have hz0 : 0 ≤ z := h0 z (by simp)
    rw [runsOf_snoc]
    by_cases hl : l = []
    · subst hl
      rw [show runsOf [] = [] from rfl]
      refine ⟨fun i p h => ?_, by simp [runStep, sumR], fun y hy => ?_, fun h => by simp at h⟩
      · have hs : runStep [] z = [(z, 1)] := rfl
        rw [hs] at h ⊢
        match i, h with
        | 0, h => obtain rfl := Option.some.inj h; exact ⟨by dsimp only; omega, by unfold endR; rw [if_pos rfl]; dsimp only; omega⟩
        | i + 1, h => simp at h
      · have hs : runStep [] z = [(z, 1)] := rfl
        rw [hs]
        have : z = y := by simpa using hy
        subst this
        exact ⟨by simp, by simp [endR]⟩
    · obtain ⟨w, hw⟩ : ∃ w, l.getLast? = some w := ⟨_, List.getLast?_eq_some_getLast hl⟩
      obtain ⟨j1, j2⟩ := i3 w hw
      have hwz : w < z := (List.pairwise_append.1 hp).2.2 w (List.mem_of_getLast? hw) z (by simp)
      obtain ⟨p, hq⟩ : ∃ p, (runsOf l)[(runsOf l).length - 1]? = some p := ⟨_, List.getElem?_eq_getElem (by omega)⟩
      have hep : endR (runsOf l) (runsOf l).length = p.1 + p.2 := by unfold endR; rw [if_neg j1, getD_of hq]
      have hgp := i1 _ _ hq
      by_cases hh : p.1 + p.2 = z
      · rw [runStep_hit hq hh]
        have hR : (runsOf l) = (runsOf l).take ((runsOf l).length - 1) ++ [p] := by
          rw [← take_get hq, Nat.sub_add_cancel (by omega), List.take_length]
        obtain ⟨R0, hR0⟩ : ∃ R0, R0 = (runsOf l).take ((runsOf l).length - 1) := ⟨_, rfl⟩
        rw [← hR0] at hR
        have hset : (runsOf l).set ((runsOf l).length - 1) (p.1, p.2 + 1) = R0 ++ [(p.1, p.2 + 1)] := by
          rw [hR]; simp
        rw [hset]
        have hlen : (R0 ++ [(p.1, p.2 + 1)]).length = R0.length + 1 := by simp
        have hlR : (runsOf l).length = R0.length + 1 := by rw [hR]; simp
        have hl1 : (R0 ++ [(p.1, p.2 + 1)])[R0.length]? = some (p.1, p.2 + 1) := by simp
        refine ⟨fun i q h => ?_, ?_, fun y hy => ?_, fun h => by simp at h⟩
        · by_cases hi : i < R0.length
          · have h2 : (runsOf l)[i]? = some q := by rw [hR, List.getElem?_append_left hi]; rwa [List.getElem?_append_left hi] at h
            have := i1 i q h2
            rw [endR_app (by omega)]
            rw [hR, endR_app (by omega)] at this
            exact this
          · have hi2 := (List.getElem?_eq_some_iff.1 h).1
            have hie : i = R0.length := by omega
            subst hie
            rw [hl1] at h
            obtain rfl := Option.some.inj h
            rw [endR_app (Nat.le_refl _)]
            have := hgp.2
            rw [show (runsOf l).length - 1 = R0.length by omega, hR, endR_app (Nat.le_refl _)] at this
            exact ⟨by have := hgp.1; dsimp only; omega, this⟩
        · rw [hlen, sumR_succ hl1]
          have h5 : sumR (runsOf l) (runsOf l).length = sumR R0 R0.length + p.2 := by
            rw [hlR, hR, sumR_succ (p := p) (by simp)]
            unfold sumR; simp
          have h6 : sumR (R0 ++ [(p.1, p.2 + 1)]) R0.length = sumR R0 R0.length := by unfold sumR; simp
          rw [h6, List.length_append, List.length_singleton]
          dsimp only
          omega
        · have hyz : z = y := by simpa using hy
          subst hyz
          refine ⟨by rw [hlen]; omega, ?_⟩
          rw [hlen]; unfold endR
          rw [if_neg (by omega), Nat.add_sub_cancel, getD_of hl1]; dsimp only; omega
      · rw [runStep_new hq hh]
        have hl1 : (runsOf l ++ [(z, (1 : Int))])[(runsOf l).length]? = some (z, 1) := by simp
        have hlen : (runsOf l ++ [(z, (1 : Int))]).length = (runsOf l).length + 1 := by simp
        refine ⟨fun i q h => ?_, ?_, fun y hy => ?_, fun h => by simp at h⟩
        · by_cases hi : i < (runsOf l).length
          · rw [List.getElem?_append_left hi] at h
            rw [endR_app (by omega)]
            exact i1 i q h
          · have hi2 := (List.getElem?_eq_some_iff.1 h).1
            have hie : i = (runsOf l).length := by omega
            subst hie
            rw [hl1] at h
            obtain rfl := Option.some.inj h
            rw [endR_app (Nat.le_refl _)]
            exact ⟨by dsimp only; omega, by dsimp only; omega⟩
        · rw [hlen, sumR_succ hl1]
          have h6 : sumR (runsOf l ++ [(z, (1 : Int))]) (runsOf l).length = sumR (runsOf l) (runsOf l).length := by unfold sumR; simp
          rw [h6, i2, List.length_append, List.length_singleton]
          dsimp only; omega
        · have hyz : z = y := by simpa using hy
          subst hyz
          refine ⟨by rw [hlen]; omega, ?_⟩
          rw [hlen]; unfold endR
          rw [if_neg (by omega), Nat.add_sub_cancel, getD_of hl1]
end Go.Proofs.Ytnhippfllgnngaa

/- The text SF1. -/
set_option linter.unusedVariables false
set_option linter.unusedSimpArgs false
set_option maxRecDepth 10000
namespace Go.Proofs.Ytnhippfllgnngaa
open Go Go.KK Dm

theorem awake_ok {L : List Asn} :
    CallS Try.prog 59 [].toArray L (fun v M => v = .bool true ∧ M = L) := by
  refine CallS.ent ?_
  refine CallS.enter Try.func59 rfl rfl rfl rfl rfl ?_
  refine J.seq rfl ?_
  refine J.region rfl ?_
  refine JO.pur rfl rfl rfl (Pur.assign rfl) ?_
  refine JO.nil ?_
  refine J.seq rfl ?_
  refine J.region rfl ?_
  refine JO.pur rfl rfl rfl (Pur.build (cs := [_, _, _]) rfl rfl) ?_
  refine JO.pur rfl rfl rfl (Pur.build (cs := [_, _, _]) rfl rfl) ?_
  refine JO.eff rfl rfl rfl (Eff.buildSlice rgE awD rfl rfl rfl rfl rfl rfl rfl) ?_
  rintro _ _ ⟨b7, rfl, -, rfl⟩
  refine JO.pur rfl rfl rfl (Pur.build (cs := [_]) rfl rfl) ?_
  refine JO.eff rfl rfl rfl (Eff.alloc (cs := [_]) rfl) ?_
  rintro _ _ ⟨b1, rfl, rfl⟩
  refine JO.effN rfl rfl (Eff.storeBA (cs' := [_]) rfl rfl (by rfl) (by rfl) (by rfl)) ?_
  rintro _ _ ⟨rfl, rfl⟩
  refine JO.nil ?_
  refine J.seq rfl ?_
  refine J.region rfl ?_
  refine JO.pur rfl rfl rfl (Pur.build (cs := [_, _, _]) rfl rfl) ?_
  refine JO.pur rfl rfl rfl (Pur.build (cs := [_, _, _]) rfl rfl) ?_
  refine JO.eff rfl rfl rfl (Eff.buildSlice rgE awP rfl rfl rfl rfl rfl rfl rfl) ?_
  rintro _ _ ⟨b11, rfl, -, rfl⟩
  refine JO.pur rfl rfl rfl (Pur.build (cs := [_]) rfl rfl) ?_
  refine JO.eff rfl rfl rfl (Eff.alloc (cs := [_]) rfl) ?_
  rintro _ _ ⟨b2, rfl, rfl⟩
  refine JO.effN rfl rfl (Eff.storeBA (cs' := [_]) rfl rfl (by rfl) (by rfl) (by rfl)) ?_
  rintro _ _ ⟨rfl, rfl⟩
  refine JO.nil ?_
  refine J.seq rfl ?_
  refine J.region rfl ?_
  refine JO.pur rfl rfl rfl (Pur.loadA rfl rfl rfl CellsIn.blk) ?_
  refine JO.pur rfl rfl rfl (Pur.loadA rfl rfl rfl CellsIn.blk) ?_
  refine JO.eff rfl rfl rfl (Eff.call rfl (lRuns (lay := rowS) (rs := awD) (ss := awP) rfl rfl)) ?_
  rintro _ _ ⟨a16, c16, rfl, rfl⟩
  rw [aw_run]
  refine JO.pur rfl rfl rfl (Pur.move rfl) ?_
  refine JO.pur rfl rfl rfl (Pur.extract rfl rfl) ?_
  refine JO.pur rfl rfl rfl (Pur.extract rfl rfl) ?_
  refine JO.pur rfl rfl rfl (Pur.assign rfl) ?_
  refine JO.pur rfl rfl rfl (Pur.assign rfl) ?_
  refine JO.nil ?_
  refine J.seq rfl ?_
  refine J.region rfl ?_
  refine JO.pur rfl rfl rfl (Pur.move rfl) ?_
  refine JO.pur rfl rfl rfl (Pur.eqlI rfl rfl) ?_
  refine JO.pur rfl rfl rfl (Pur.move rfl) ?_
  refine JO.setv (u' := .bool true) 21 rfl (congrArg Value.bool (rfl)) ?_
  refine JO.pur rfl rfl rfl (Pur.move rfl) ?_
  refine JO.pur rfl rfl rfl (Pur.len rfl) ?_
  refine JO.pur rfl rfl rfl (Pur.eqlI rfl rfl) ?_
  refine JO.pur rfl rfl rfl (Pur.pickT rfl rfl) ?_
  refine JO.pur rfl rfl rfl (Pur.move rfl) ?_
  refine JO.setv (u' := .bool true) 26 rfl (congrArg Value.bool (rfl)) ?_
  refine JO.pur rfl rfl rfl (Pur.move rfl) ?_
  refine JO.pur rfl rfl rfl (Pur.idx rfl rfl rfl (by first | rfl | (simp; done) | omega) (show (0 : Int) = ((0 : Nat) : Int) from rfl) (by decide)) ?_
  refine JO.pur rfl rfl rfl (Pur.loadA rfl rfl rfl (CellsIn.el rfl (show [((5 : Int), (2 : Int)), (9, 2)][0]? = some (5, 2) from rfl))) ?_
  refine JO.pur rfl rfl rfl (Pur.build (cs := [_, _]) rfl rfl) ?_
  refine JO.pur rfl rfl rfl (Pur.eqlE (E := pairE) (a := (5, 2)) (b := (5, 2)) rfl rfl) ?_
  refine JO.pur rfl rfl rfl (Pur.pickT rfl rfl) ?_
  refine JO.pur rfl rfl rfl (Pur.move rfl) ?_
  refine JO.setv (u' := .bool true) 33 rfl (congrArg Value.bool (rfl)) ?_
  refine JO.pur rfl rfl rfl (Pur.move rfl) ?_
  refine JO.pur rfl rfl rfl (Pur.idx rfl rfl rfl (by first | rfl | (simp; done) | omega) (show (1 : Int) = ((1 : Nat) : Int) from rfl) (by decide)) ?_
  refine JO.pur rfl rfl rfl (Pur.loadA rfl rfl rfl (CellsIn.el rfl (show [((5 : Int), (2 : Int)), (9, 2)][1]? = some (9, 2) from rfl))) ?_
  refine JO.pur rfl rfl rfl (Pur.build (cs := [_, _]) rfl rfl) ?_
  refine JO.pur rfl rfl rfl (Pur.eqlE (E := pairE) (a := (9, 2)) (b := (9, 2)) rfl rfl) ?_
  refine JO.pur rfl rfl rfl (Pur.pickT rfl rfl) ?_
  refine JO.pur rfl rfl rfl (Pur.assign rfl) ?_
  refine JO.nil ?_
  refine J.ret rfl rfl ?_
  refine ⟨_, _, ⟨rfl, rfl⟩, rfl, SubC.out⟩

theorem runV_len (lay : ByteArray) (rs ss : List Rg) : (runV lay rs ss).1.length ≤ 1000000 := by
  unfold runV
  by_cases h : wthV lay rs ss = 0
  · rw [if_neg (not_not_intro h)]
    obtain ⟨g1, g2, g3, hle, hw⟩ := wthV_ok h
    have h1 := runsOf_len (plcs (isC lay) rs ss)
    have h2 := plcsK_len (isC lay) rs ss (ordL (isC lay) rs).length
    rw [plcsK_all, ord_len2] at h2
    have := g2.2.2.2
    dsimp only; omega
  · rw [if_pos h]; simp
theorem trnV_len (lay lay2 : ByteArray) (rs : List Rg) (xs : List Int) : (trnV lay lay2 rs xs).1.length ≤ 1000000 := by
  unfold trnV
  by_cases h : ask21 lay lay2 rs = 0
  · rw [if_neg (not_not_intro h)]
    have := (ask21_ok h).2.2.2.2.2
    by_cases h2 : xs.length = cntD rs
    · rw [if_neg (not_not_intro h2)]; dsimp only; rw [pick_len, ord_len2]; omega
    · rw [if_pos h2]; simp
  · rw [if_pos h]; simp
theorem rszV_len (lay : ByteArray) (rs ss : List Rg) (xs : List Int) : (rszV lay rs xs ss).1.length ≤ 1000000 := by
  unfold rszV
  by_cases h : ask2 lay rs ss = 0
  · rw [if_neg (not_not_intro h)]
    have := (ask2_ok h).2.2.2.2.2
    split
    · simp
    · dsimp only; rw [grow_len, ord_len2]; omega
  · rw [if_pos h]; simp
theorem cutV_len (lay : ByteArray) (rs ss : List Rg) (xs : List Int) : (cutV lay rs xs ss).1.length ≤ 1000000 := by
  unfold cutV
  by_cases h : wthV lay rs ss = 0
  · rw [if_neg (not_not_intro h)]
    obtain ⟨g1, g2, g3, hle, hw⟩ := wthV_ok h
    have := g3.2.2.2
    split
    · simp
    · dsimp only; rw [pick_len, ord_len2]; omega
  · rw [if_pos h]; simp
theorem layV_len (lay : ByteArray) (rs ss : List Rg) (xs ys : List Int) : (layV lay rs xs ss ys).1.length ≤ 1000000 := by
  unfold layV
  by_cases h : wthV lay rs ss = 0
  · rw [if_neg (not_not_intro h)]
    obtain ⟨g1, g2, g3, hle, hw⟩ := wthV_ok h
    have := g2.2.2.2
    by_cases h2 : xs.length ≠ cntD rs ∨ ys.length ≠ cntD ss
    · rw [if_pos h2]; simp
    · rw [if_neg h2]; dsimp only; rw [layL_len]
      have : xs.length = cntD rs := Classical.byContradiction fun g => h2 (.inl g)
      omega
  · rw [if_pos h]; simp
theorem putV_len (lay : ByteArray) (rs : List Rg) (xs x : List Int) (z : Int) : (putV lay rs xs x z).1.length ≤ 1000000 := by
  unfold putV
  by_cases h : (ofV lay rs x).2 = 0
  · rw [if_neg (not_not_intro h)]
    obtain ⟨g1, g2, _⟩ := ofV_ok h
    have := g2.2.2.2
    by_cases h2 : xs.length = cntD rs
    · rw [if_neg (not_not_intro h2)]; dsimp only; rw [List.length_set]; omega
    · rw [if_pos h2]; simp
  · rw [if_pos h]; simp
theorem ixV_len (lay : ByteArray) (rs : List Rg) (i : Int) : (ixV lay rs i).1.length ≤ 1000000 := by
  unfold ixV
  by_cases h : ask1 lay rs = 0
  · rw [if_neg (not_not_intro h)]
    have := (ask1_ok h).2.2.1
    split
    · simp
    · dsimp only
      cases e : (ordL (isC lay) rs)[i.toNat]? with
      | none => simp
      | some x => have := ord_row (List.mem_of_getElem? e); simp; omega
  · rw [if_pos h]; simp
theorem lawRuns {L : List Asn} {lay : ByteArray} {a b : Option Addr} {n cap m cq : Nat} {rs ss : List Rg} [SlIn rgE L a rs] [SlIn rgE L b ss] (hn : n = rs.length) (hm : m = ss.length) :
    CallS Try.prog 13 [.string lay, .agg #[.slice a n cap], .agg #[.slice b m cq]].toArray L (fun v M => v = .bool true ∧ M = L) := by
  subst hn
  subst hm
  refine CallS.ent ?_
  refine CallS.enter Try.func13 rfl rfl rfl rfl rfl ?_
  refine J.seq rfl ?_
  refine J.region rfl ?_
  refine JO.eff rfl rfl rfl (Eff.box (cs := [_]) rfl rfl) ?_
  rintro _ _ ⟨b4, rfl, rfl⟩
  refine JO.eff rfl rfl rfl (Eff.box (cs := [_]) rfl rfl) ?_
  rintro _ _ ⟨b5, rfl, rfl⟩
  refine JO.pur rfl rfl rfl (Pur.assign rfl) ?_
  refine JO.nil ?_
  refine J.seq rfl ?_
  refine J.seq rfl ?_
  refine J.region rfl ?_
  refine JO.pur rfl rfl rfl (Pur.loadA rfl rfl rfl CellsIn.blk) ?_
  refine JO.effR rfl rfl rfl (Eff.call rfl (large_ok (rs := rs) rfl)) ?_
  refine JO.pur rfl rfl rfl (Pur.move rfl) ?_
  refine JO.splitB 13 rfl (fun h13 => ?_) (fun h13 => ?_)
  · try simp only [decide_eq_true_eq, decide_eq_false_iff_not, Bool.not_eq_true', Bool.not_eq_false', Bool.and_eq_true, Bool.or_eq_true, Bool.and_eq_false_iff, Bool.or_eq_false_iff, Option.isNone_some, Option.isSome_some, Option.isNone_none, Option.isSome_none, Int.not_lt, Int.not_le, beq_iff_eq, beq_eq_false_iff_ne, bne_iff_ne, ne_eq, Bool.not_not, Decidable.not_not] at h13
    refine JO.no rfl rfl rfl ?_
    refine JO.no rfl rfl rfl ?_
    refine JO.pur rfl rfl rfl (Pur.pickT rfl rfl) ?_
    refine JO.nil ?_
    refine J.condT rfl rfl ?_
    refine J.seq rfl ?_
    refine J.region rfl ?_
    refine JO.effR rfl rfl rfl (Eff.call rfl (awake_ok)) ?_
    refine JO.pur rfl rfl rfl (Pur.assign rfl) ?_
    refine JO.nil ?_
    refine J.ret rfl rfl ?_
    refine ⟨_, _, ⟨rfl, rfl⟩, rfl, SubC.out⟩
  · try simp only [decide_eq_true_eq, decide_eq_false_iff_not, Bool.not_eq_true', Bool.not_eq_false', Bool.and_eq_true, Bool.or_eq_true, Bool.and_eq_false_iff, Bool.or_eq_false_iff, Option.isNone_some, Option.isSome_some, Option.isNone_none, Option.isSome_none, Int.not_lt, Int.not_le, beq_iff_eq, beq_eq_false_iff_ne, bne_iff_ne, ne_eq, Bool.not_not, Decidable.not_not] at h13
    refine JO.pur rfl rfl rfl (Pur.loadA rfl rfl rfl CellsIn.blk) ?_
    refine JO.effR rfl rfl rfl (Eff.call rfl (large_ok (rs := ss) rfl)) ?_
    refine JO.pur rfl rfl rfl (Pur.pickF rfl rfl) ?_
    refine JO.nil ?_
    refine J.splitB 16 rfl (fun h16 => ?_) (fun h16 => ?_)
    · try simp only [decide_eq_true_eq, decide_eq_false_iff_not, Bool.not_eq_true', Bool.not_eq_false', Bool.and_eq_true, Bool.or_eq_true, Bool.and_eq_false_iff, Bool.or_eq_false_iff, Option.isNone_some, Option.isSome_some, Option.isNone_none, Option.isSome_none, Int.not_lt, Int.not_le, beq_iff_eq, beq_eq_false_iff_ne, bne_iff_ne, ne_eq, Bool.not_not, Decidable.not_not] at h16
      refine J.condT rfl rfl ?_
      refine J.seq rfl ?_
      refine J.region rfl ?_
      refine JO.effR rfl rfl rfl (Eff.call rfl (awake_ok)) ?_
      refine JO.pur rfl rfl rfl (Pur.assign rfl) ?_
      refine JO.nil ?_
      refine J.ret rfl rfl ?_
      refine ⟨_, _, ⟨rfl, rfl⟩, rfl, SubC.out⟩
    · try simp only [decide_eq_true_eq, decide_eq_false_iff_not, Bool.not_eq_true', Bool.not_eq_false', Bool.and_eq_true, Bool.or_eq_true, Bool.and_eq_false_iff, Bool.or_eq_false_iff, Option.isNone_some, Option.isSome_some, Option.isNone_none, Option.isSome_none, Int.not_lt, Int.not_le, beq_iff_eq, beq_eq_false_iff_ne, bne_iff_ne, ne_eq, Bool.not_not, Decidable.not_not] at h16
      refine J.condF rfl rfl ?_
      refine J.skip rfl ?_
      refine J.seq rfl ?_
      refine J.region rfl ?_
      refine JO.pur rfl rfl rfl (Pur.move rfl) ?_
      refine JO.pur rfl rfl rfl (Pur.loadA rfl rfl rfl CellsIn.blk) ?_
      refine JO.pur rfl rfl rfl (Pur.loadA rfl rfl rfl CellsIn.blk) ?_
      refine JO.eff rfl rfl rfl (Eff.call rfl (lRuns (rs := rs) (ss := ss) rfl rfl)) ?_
      rintro _ _ ⟨a22, c22, rfl, rfl⟩
      refine JO.pur rfl rfl rfl (Pur.move rfl) ?_
      refine JO.pur rfl rfl rfl (Pur.extract rfl rfl) ?_
      refine JO.pur rfl rfl rfl (Pur.extract rfl rfl) ?_
      refine JO.pur rfl rfl rfl (Pur.assign rfl) ?_
      refine JO.pur rfl rfl rfl (Pur.assign rfl) ?_
      refine JO.nil ?_
      refine J.seq rfl ?_
      refine J.region rfl ?_
      refine JO.pur rfl rfl rfl (Pur.move rfl) ?_
      refine JO.pur rfl rfl rfl (Pur.loadA rfl rfl rfl CellsIn.blk) ?_
      refine JO.pur rfl rfl rfl (Pur.loadA rfl rfl rfl CellsIn.blk) ?_
      refine JO.eff rfl rfl rfl (Eff.call rfl (rRuns (rs := rs) (ss := ss) rfl rfl)) ?_
      rintro _ _ ⟨a29, c29, rfl, rfl⟩
      refine JO.pur rfl rfl rfl (Pur.move rfl) ?_
      refine JO.pur rfl rfl rfl (Pur.extract rfl rfl) ?_
      refine JO.pur rfl rfl rfl (Pur.extract rfl rfl) ?_
      refine JO.pur rfl rfl rfl (Pur.assign rfl) ?_
      refine JO.pur rfl rfl rfl (Pur.assign rfl) ?_
      refine JO.nil ?_
      refine J.seq rfl ?_
      refine J.region rfl ?_
      refine JO.pur rfl rfl rfl (Pur.move rfl) ?_
      refine JO.pur rfl rfl rfl (Pur.move rfl) ?_
      refine JO.effR rfl rfl rfl (Eff.call rfl (pairs_ok (xs := (runV lay rs ss).1) (ys := (runV lay rs ss).1) rfl rfl (runV_len _ _ _))) ?_
      refine JO.setv (u' := .bool true) 34 rfl (congrArg Value.bool (decide_eq_true rfl)) ?_
      refine JO.pur rfl rfl rfl (Pur.move rfl) ?_
      refine JO.pur rfl rfl rfl (Pur.move rfl) ?_
      refine JO.pur rfl rfl rfl (Pur.move rfl) ?_
      refine JO.pur rfl rfl rfl (Pur.eqlI rfl rfl) ?_
      refine JO.pur rfl rfl rfl (Pur.pickT rfl rfl) ?_
      refine JO.pur rfl rfl rfl (Pur.move rfl) ?_
      refine JO.setv (u' := .bool true) 40 rfl (congrArg Value.bool (decide_eq_true rfl)) ?_
      refine JO.effR rfl rfl rfl (Eff.call rfl (awake_ok)) ?_
      refine JO.pur rfl rfl rfl (Pur.pickT rfl rfl) ?_
      refine JO.pur rfl rfl rfl (Pur.assign rfl) ?_
      refine JO.nil ?_
      refine J.ret rfl rfl ?_
      refine ⟨_, _, ⟨rfl, rfl⟩, rfl, SubC.out⟩

theorem endR_succ {R : List (Int × Int)} {i : Nat} {p : Int × Int} (h : R[i]? = some p) : endR R (i + 1) = p.1 + p.2 := by
  unfold endR; rw [if_neg (by omega), Nat.add_sub_cancel, getD_of h]
theorem sum_nonneg {R : List (Int × Int)} (h : goodR R) : ∀ k, k ≤ R.length → 0 ≤ sumR R k
  | 0, _ => by simp [sumR]
  | k + 1, hk => by
    obtain ⟨p, hp⟩ : ∃ p, R[k]? = some p := ⟨_, List.getElem?_eq_getElem (by omega)⟩
    have := sum_nonneg h k (by omega)
    have := (h k p hp).1
    rw [sumR_succ hp]; omega
theorem sum_le {R : List (Int × Int)} (h : goodR R) : ∀ j k, k + j ≤ R.length → sumR R k ≤ sumR R (k + j)
  | 0, k, _ => Int.le_refl _
  | j + 1, k, hk => by
    obtain ⟨p, hp⟩ : ∃ p, R[k + j]? = some p := ⟨_, List.getElem?_eq_getElem (by omega)⟩
    have := sum_le h j k (by omega)
    have := (h _ p hp).1
    rw [show k + (j + 1) = k + j + 1 from rfl, sumR_succ hp]; omega
theorem run_facts {lay : ByteArray} {rs ss : List Rg} (h : wthV lay rs ss = 0) : goodR (runV lay rs ss).1 ∧ sumR (runV lay rs ss).1 (runV lay rs ss).1.length = (cntD ss : Int) ∧ endR (runV lay rs ss).1 (runV lay rs ss).1.length ≤ (cntD rs : Int) ∧ ∀ k p, (runV lay rs ss).1[k]? = some p → (0 ≤ p.1 ∧ p.1 ≤ 4096 ∧ 1 ≤ p.2 ∧ p.2 ≤ 4096) ∧ 0 ≤ sumR (runV lay rs ss).1 k ∧ sumR (runV lay rs ss).1 k ≤ 4096 := by
  obtain ⟨g1, g2, g3, hle, hw⟩ := wthV_ok h
  have e1 : (runV lay rs ss).1 = runsOf (plcs (isC lay) rs ss) := by unfold runV; rw [if_neg (not_not_intro h)]
  rw [e1]
  have hb : ∀ z ∈ plcs (isC lay) rs ss, 0 ≤ z ∧ z ≤ (cntD rs : Int) - 1 := fun z hz => by have := plcs_bnd hz; rwa [ord_len2] at this
  obtain ⟨r1, r2, r3, r4⟩ := run_good (plcs (isC lay) rs ss) (plcs_asc _ _ _) (fun z hz => (hb z hz).1)
  have hlen : (plcs (isC lay) rs ss).length = cntD ss := by
    rw [← offs_sort g2.2.2.1 g3.2.2.1 hw, srt_len]; unfold offsL; rw [List.length_map, ord_len2]
  have hc4 := g2.2.2.2
  have hc5 := g3.2.2.2
  refine ⟨r1, by rw [r2, hlen], ?_, fun k p hp => ?_⟩
  · cases e : (plcs (isC lay) rs ss).getLast? with
    | none =>
      rw [List.getLast?_eq_none_iff] at e
      rw [r4 e]; show (-1 : Int) ≤ _; omega
    | some z =>
      obtain ⟨_, h2⟩ := r3 z e
      have := hb z (List.mem_of_getLast? e)
      rw [h2]; omega
  · have hk := (List.getElem?_eq_some_iff.1 hp).1
    have := runs_bnd (lo := 0) (hi := 4096) (fun n hn => by have := hb n hn; omega) (List.mem_of_getElem? hp)
    rw [hlen] at this
    have h5 := sum_nonneg r1 k (by omega)
    have h6 := sum_le r1 ((runsOf (plcs (isC lay) rs ss)).length - k) k (by omega)
    rw [show k + ((runsOf (plcs (isC lay) rs ss)).length - k) = (runsOf (plcs (isC lay) rs ss)).length by omega, r2, hlen] at h6
    exact ⟨by omega, h5, by omega⟩
theorem lawTouches {L : List Asn} {lay : ByteArray} {a b : Option Addr} {n cap m cq : Nat} {rs ss : List Rg} [SlIn rgE L a rs] [SlIn rgE L b ss] (hn : n = rs.length) (hm : m = ss.length) :
    CallS Try.prog 14 [.string lay, .agg #[.slice a n cap], .agg #[.slice b m cq]].toArray L (fun v M => v = .bool true ∧ M = L) := by
  subst hn
  subst hm
  refine CallS.ent ?_
  refine CallS.enter Try.func14 rfl rfl rfl rfl rfl ?_
  refine J.seq rfl ?_
  refine J.region rfl ?_
  refine JO.eff rfl rfl rfl (Eff.box (cs := [_]) rfl rfl) ?_
  rintro _ _ ⟨b4, rfl, rfl⟩
  refine JO.eff rfl rfl rfl (Eff.box (cs := [_]) rfl rfl) ?_
  rintro _ _ ⟨b5, rfl, rfl⟩
  refine JO.pur rfl rfl rfl (Pur.assign rfl) ?_
  refine JO.nil ?_
  refine J.seq rfl ?_
  refine J.seq rfl ?_
  refine J.region rfl ?_
  refine JO.pur rfl rfl rfl (Pur.loadA rfl rfl rfl CellsIn.blk) ?_
  refine JO.effR rfl rfl rfl (Eff.call rfl (large_ok (rs := rs) rfl)) ?_
  refine JO.pur rfl rfl rfl (Pur.move rfl) ?_
  refine JO.splitB 18 rfl (fun h18 => ?_) (fun h18 => ?_)
  · try simp only [decide_eq_true_eq, decide_eq_false_iff_not, Bool.not_eq_true', Bool.not_eq_false', Bool.and_eq_true, Bool.or_eq_true, Bool.and_eq_false_iff, Bool.or_eq_false_iff, Option.isNone_some, Option.isSome_some, Option.isNone_none, Option.isSome_none, Int.not_lt, Int.not_le, beq_iff_eq, beq_eq_false_iff_ne, bne_iff_ne, ne_eq, Bool.not_not, Decidable.not_not] at h18
    refine JO.no rfl rfl rfl ?_
    refine JO.no rfl rfl rfl ?_
    refine JO.pur rfl rfl rfl (Pur.pickT rfl rfl) ?_
    refine JO.nil ?_
    refine J.condT rfl rfl ?_
    refine J.seq rfl ?_
    refine J.region rfl ?_
    refine JO.effR rfl rfl rfl (Eff.call rfl (awake_ok)) ?_
    refine JO.pur rfl rfl rfl (Pur.assign rfl) ?_
    refine JO.nil ?_
    refine J.ret rfl rfl ?_
    refine ⟨_, _, ⟨rfl, rfl⟩, rfl, SubC.out⟩
  · try simp only [decide_eq_true_eq, decide_eq_false_iff_not, Bool.not_eq_true', Bool.not_eq_false', Bool.and_eq_true, Bool.or_eq_true, Bool.and_eq_false_iff, Bool.or_eq_false_iff, Option.isNone_some, Option.isSome_some, Option.isNone_none, Option.isSome_none, Int.not_lt, Int.not_le, beq_iff_eq, beq_eq_false_iff_ne, bne_iff_ne, ne_eq, Bool.not_not, Decidable.not_not] at h18
    refine JO.pur rfl rfl rfl (Pur.loadA rfl rfl rfl CellsIn.blk) ?_
    refine JO.effR rfl rfl rfl (Eff.call rfl (large_ok (rs := ss) rfl)) ?_
    refine JO.pur rfl rfl rfl (Pur.pickF rfl rfl) ?_
    refine JO.nil ?_
    refine J.splitB 21 rfl (fun h21 => ?_) (fun h21 => ?_)
    · try simp only [decide_eq_true_eq, decide_eq_false_iff_not, Bool.not_eq_true', Bool.not_eq_false', Bool.and_eq_true, Bool.or_eq_true, Bool.and_eq_false_iff, Bool.or_eq_false_iff, Option.isNone_some, Option.isSome_some, Option.isNone_none, Option.isSome_none, Int.not_lt, Int.not_le, beq_iff_eq, beq_eq_false_iff_ne, bne_iff_ne, ne_eq, Bool.not_not, Decidable.not_not] at h21
      refine J.condT rfl rfl ?_
      refine J.seq rfl ?_
      refine J.region rfl ?_
      refine JO.effR rfl rfl rfl (Eff.call rfl (awake_ok)) ?_
      refine JO.pur rfl rfl rfl (Pur.assign rfl) ?_
      refine JO.nil ?_
      refine J.ret rfl rfl ?_
      refine ⟨_, _, ⟨rfl, rfl⟩, rfl, SubC.out⟩
    · try simp only [decide_eq_true_eq, decide_eq_false_iff_not, Bool.not_eq_true', Bool.not_eq_false', Bool.and_eq_true, Bool.or_eq_true, Bool.and_eq_false_iff, Bool.or_eq_false_iff, Option.isNone_some, Option.isSome_some, Option.isNone_none, Option.isSome_none, Int.not_lt, Int.not_le, beq_iff_eq, beq_eq_false_iff_ne, bne_iff_ne, ne_eq, Bool.not_not, Decidable.not_not] at h21
      refine J.condF rfl rfl ?_
      refine J.skip rfl ?_
      refine J.seq rfl ?_
      refine J.region rfl ?_
      refine JO.pur rfl rfl rfl (Pur.move rfl) ?_
      refine JO.pur rfl rfl rfl (Pur.loadA rfl rfl rfl CellsIn.blk) ?_
      refine JO.pur rfl rfl rfl (Pur.loadA rfl rfl rfl CellsIn.blk) ?_
      refine JO.eff rfl rfl rfl (Eff.call rfl (lRuns (rs := rs) (ss := ss) rfl rfl)) ?_
      rintro _ _ ⟨a27, c27, rfl, rfl⟩
      refine JO.pur rfl rfl rfl (Pur.move rfl) ?_
      refine JO.pur rfl rfl rfl (Pur.extract rfl rfl) ?_
      refine JO.setv (u' := .slice a27 (runV lay rs ss).1.length c27) 28 rfl rfl ?_
      refine JO.pur rfl rfl rfl (Pur.extract rfl rfl) ?_
      refine JO.setv (u' := .int .i64 (runV lay rs ss).2) 29 rfl rfl ?_
      refine JO.pur rfl rfl rfl (Pur.assign rfl) ?_
      refine JO.pur rfl rfl rfl (Pur.assign rfl) ?_
      refine JO.nil ?_
      refine J.seq rfl ?_
      refine J.seq rfl ?_
      refine J.region rfl ?_
      refine JO.pur rfl rfl rfl (Pur.move rfl) ?_
      refine JO.pur rfl rfl rfl (Pur.neqI rfl rfl) ?_
      refine JO.nil ?_
      refine J.splitB 31 rfl (fun h31 => ?_) (fun h31 => ?_)
      · try simp only [decide_eq_true_eq, decide_eq_false_iff_not, Bool.not_eq_true', Bool.not_eq_false', Bool.and_eq_true, Bool.or_eq_true, Bool.and_eq_false_iff, Bool.or_eq_false_iff, Option.isNone_some, Option.isSome_some, Option.isNone_none, Option.isSome_none, Int.not_lt, Int.not_le, beq_iff_eq, beq_eq_false_iff_ne, bne_iff_ne, ne_eq, Bool.not_not, Decidable.not_not] at h31
        have hbad : (runV lay rs ss).2 ≠ 0 := h31
        have hrz : (runV lay rs ss).1.length = 0 := by
          unfold runV at hbad ⊢
          by_cases e : wthV lay rs ss = 0
          · rw [if_neg (not_not_intro e)] at hbad; exact absurd rfl hbad
          · rw [if_pos e]; rfl
        refine J.condT rfl rfl ?_
        refine J.seq rfl ?_
        refine J.region rfl ?_
        refine JO.pur rfl rfl rfl (Pur.move rfl) ?_
        refine JO.pur rfl rfl rfl (Pur.len rfl) ?_
        refine JO.pur rfl rfl rfl (Pur.eqlI rfl rfl) ?_
        refine JO.pur rfl rfl rfl (Pur.move rfl) ?_
        refine JO.setv (u' := .bool true) 35 rfl (congrArg Value.bool (decide_eq_true (by omega))) ?_
        refine JO.effR rfl rfl rfl (Eff.call rfl (awake_ok)) ?_
        refine JO.pur rfl rfl rfl (Pur.pickT rfl rfl) ?_
        refine JO.pur rfl rfl rfl (Pur.assign rfl) ?_
        refine JO.nil ?_
        refine J.ret rfl rfl ?_
        refine ⟨_, _, ⟨rfl, rfl⟩, rfl, SubC.out⟩
      · try simp only [decide_eq_true_eq, decide_eq_false_iff_not, Bool.not_eq_true', Bool.not_eq_false', Bool.and_eq_true, Bool.or_eq_true, Bool.and_eq_false_iff, Bool.or_eq_false_iff, Option.isNone_some, Option.isSome_some, Option.isNone_none, Option.isSome_none, Int.not_lt, Int.not_le, beq_iff_eq, beq_eq_false_iff_ne, bne_iff_ne, ne_eq, Bool.not_not, Decidable.not_not] at h31
        have hgd : (runV lay rs ss).2 = 0 := by simpa using h31
        have hgw : wthV lay rs ss = 0 := by
          unfold runV at hgd
          by_cases e : wthV lay rs ss = 0
          · exact e
          · rw [if_pos e] at hgd; exact absurd hgd e
        obtain ⟨g1, g2, g3, hle, hw⟩ := wthV_ok hgw
        obtain ⟨q1, q2, q3, q4⟩ := run_facts hgw
        have hrl := runV_len lay rs ss
        have hc4 := g2.2.2.2
        have hc5 := g3.2.2.2
        refine J.condF rfl rfl ?_
        refine J.skip rfl ?_
        refine J.seq rfl ?_
        refine J.region rfl ?_
        refine JO.pur rfl rfl rfl (Pur.assign rfl) ?_
        refine JO.pur rfl rfl rfl (Pur.assign rfl) ?_
        refine JO.nil ?_
        refine J.seq rfl ?_
        refine J.seq rfl ?_
        refine J.region rfl ?_
        refine JO.pur rfl rfl rfl (Pur.assign rfl) ?_
        refine JO.nil ?_
        refine J.block rfl ?_
        refine J.loopF (ι := Nat) (fun q => q ≤ (runV lay rs ss).1.length) (fun q => [(9, .int .i64 (sumR (runV lay rs ss).1 q)), (10, .int .i64 (endR (runV lay rs ss).1 q)), (11, .int .i64 (q : Int))]) [(4, _), (5, _), (7, _)] (fun q => sl pairE a27 c27 (runV lay rs ss).1 :: blk b4 (.cells #[.slice a rs.length cap] 24) :: blk b5 (.cells #[.slice b ss.length cq] 24) :: L) (fun q => (runV lay rs ss).1.length - q) 0 rfl (.cons rfl rfl (.cons rfl rfl (.cons rfl rfl .nil))) (.cons rfl rfl (.cons rfl rfl (.cons rfl rfl .nil))) (by first | exact fun _ h => h | exact SubC.out | (dsimp only; exact SubC.out)) (Nat.zero_le _) ?_
        rintro k hk ihk
        try dsimp only
        refine J.seq rfl ?_
        refine J.seq rfl ?_
        refine J.region rfl ?_
        refine JO.pur rfl rfl rfl (Pur.move rfl) ?_
        refine JO.pur rfl rfl rfl (Pur.move rfl) ?_
        refine JO.pur rfl rfl rfl (Pur.len rfl) ?_
        refine JO.pur rfl rfl rfl (Pur.lss rfl rfl) ?_
        refine JO.nil ?_
        refine J.splitB 41 rfl (fun h41 => ?_) (fun h41 => ?_)
        · try simp only [decide_eq_true_eq, decide_eq_false_iff_not, Bool.not_eq_true', Bool.not_eq_false', Bool.and_eq_true, Bool.or_eq_true, Bool.and_eq_false_iff, Bool.or_eq_false_iff, Option.isNone_some, Option.isSome_some, Option.isNone_none, Option.isSome_none, Int.not_lt, Int.not_le, beq_iff_eq, beq_eq_false_iff_ne, bne_iff_ne, ne_eq, Bool.not_not, Decidable.not_not] at h41
          have hkl : k < (runV lay rs ss).1.length := by omega
          obtain ⟨p, hp⟩ : ∃ p, (runV lay rs ss).1[k]? = some p := ⟨_, List.getElem?_eq_getElem hkl⟩
          have hg := q1 k p hp
          have hb := q4 k p hp
          refine J.condT rfl rfl ?_
          refine J.skip rfl ?_
          refine J.seq rfl ?_
          refine J.block rfl ?_
          refine J.seq rfl ?_
          refine J.seq rfl ?_
          refine J.region rfl ?_
          refine JO.pur rfl rfl rfl (Pur.move rfl) ?_
          refine JO.pur rfl rfl rfl (Pur.move rfl) ?_
          refine JO.pur rfl rfl rfl (Pur.idx rfl rfl rfl (by first | rfl | (simp; done) | omega) rfl (by omega)) ?_
          refine JO.pur rfl rfl rfl (Pur.idxA (k := 1) rfl rfl rfl (by decide)) ?_
          refine JO.pur rfl rfl rfl (Pur.load rfl (CellIn.el rfl hp rfl)) ?_
          refine JO.pur rfl rfl rfl (Pur.lss rfl rfl) ?_
          refine JO.pur rfl rfl rfl (Pur.move rfl) ?_
          refine JO.setv (u' := .bool false) 50 rfl (congrArg Value.bool (decide_eq_false (by omega))) ?_
          refine JO.pur rfl rfl rfl (Pur.move rfl) ?_
          refine JO.pur rfl rfl rfl (Pur.move rfl) ?_
          refine JO.pur rfl rfl rfl (Pur.idx rfl rfl rfl (by first | rfl | (simp; done) | omega) rfl (by omega)) ?_
          refine JO.pur rfl rfl rfl (Pur.idxA (k := 0) rfl rfl rfl (by decide)) ?_
          refine JO.pur rfl rfl rfl (Pur.load rfl (CellIn.el rfl hp rfl)) ?_
          refine JO.pur rfl rfl rfl (Pur.move rfl) ?_
          refine JO.pur rfl rfl rfl (Pur.leq rfl rfl) ?_
          refine JO.pur rfl rfl rfl (Pur.pickF rfl rfl) ?_
          refine JO.nil ?_
          refine J.setv (u' := .bool false) 58 rfl (congrArg Value.bool (decide_eq_false (by omega))) ?_
          refine J.condF rfl rfl ?_
          refine J.skip rfl ?_
          refine J.seq rfl ?_
          refine J.quiet rfl Try.mixed (by kernel_rfl) ?_
          refine JQ.pur rfl rfl rfl (Pur.move rfl) ?_
          refine JQ.pur rfl rfl rfl (Pur.move rfl) ?_
          refine JQ.pur rfl rfl rfl (Pur.idx rfl rfl rfl (by first | rfl | (simp; done) | omega) rfl (by omega)) ?_
          refine JQ.pur rfl rfl rfl (Pur.idxA (k := 0) rfl rfl rfl (by decide)) ?_
          refine JQ.pur rfl rfl rfl (Pur.load rfl (CellIn.el rfl hp rfl)) ?_
          refine JQ.pur rfl rfl rfl (Pur.move rfl) ?_
          refine JQ.pur rfl rfl rfl (Pur.move rfl) ?_
          refine JQ.pur rfl rfl rfl (Pur.idx rfl rfl rfl (by first | rfl | (simp; done) | omega) rfl (by omega)) ?_
          refine JQ.pur rfl rfl rfl (Pur.idxA (k := 1) rfl rfl rfl (by decide)) ?_
          refine JQ.pur rfl rfl rfl (Pur.load rfl (CellIn.el rfl hp rfl)) ?_
          refine JQ.pur rfl rfl rfl (Pur.add rfl rfl (wr64 (by omega))) ?_
          refine JQ.pur rfl rfl rfl (Pur.assign rfl) ?_
          refine JQ.nil ?_
          refine J.region rfl ?_
          refine JO.pur rfl rfl rfl (Pur.move rfl) ?_
          refine JO.pur rfl rfl rfl (Pur.move rfl) ?_
          refine JO.pur rfl rfl rfl (Pur.move rfl) ?_
          refine JO.pur rfl rfl rfl (Pur.idx rfl rfl rfl (by first | rfl | (simp; done) | omega) rfl (by omega)) ?_
          refine JO.pur rfl rfl rfl (Pur.idxA (k := 1) rfl rfl rfl (by decide)) ?_
          refine JO.pur rfl rfl rfl (Pur.load rfl (CellIn.el rfl hp rfl)) ?_
          refine JO.pur rfl rfl rfl (Pur.add rfl rfl (wr64 (by omega))) ?_
          refine JO.pur rfl rfl rfl (Pur.assign rfl) ?_
          refine JO.nil ?_
          refine J.inBlock ?_
          refine J.region rfl ?_
          refine JO.pur rfl rfl rfl (Pur.move rfl) ?_
          refine JO.pur rfl rfl rfl (Pur.add rfl rfl (wr64 (by omega))) ?_
          refine JO.pur rfl rfl rfl (Pur.assign rfl) ?_
          refine JO.nil ?_
          exact J.weaken (.cons rfl (congrArg (Value.int .i64) (sumR_succ hp).symm) (.cons rfl (congrArg (Value.int .i64) (endR_succ hp).symm) (.cons rfl (congrArg (Value.int .i64) (by first | rfl | (dsimp only; omega))) (.cons rfl rfl (.cons rfl rfl (.cons rfl rfl .nil)))))) (by first | exact fun _ h => h | exact SubC.out | (dsimp only; exact SubC.out)) (ihk (k + 1) (by omega) (by omega))
        · try simp only [decide_eq_true_eq, decide_eq_false_iff_not, Bool.not_eq_true', Bool.not_eq_false', Bool.and_eq_true, Bool.or_eq_true, Bool.and_eq_false_iff, Bool.or_eq_false_iff, Option.isNone_some, Option.isSome_some, Option.isNone_none, Option.isSome_none, Int.not_lt, Int.not_le, beq_iff_eq, beq_eq_false_iff_ne, bne_iff_ne, ne_eq, Bool.not_not, Decidable.not_not] at h41
          have hke : k = (runV lay rs ss).1.length := by omega
          have hct1 : ctV ss = (cntD ss : Int) := by unfold ctV; rw [if_pos g3]
          have hct2 : ctV rs = (cntD rs : Int) := by unfold ctV; rw [if_pos g2]
          refine J.condF rfl rfl ?_
          refine J.exit rfl rfl ?_
          refine J.seq rfl ?_
          refine J.region rfl ?_
          refine JO.pur rfl rfl rfl (Pur.loadA rfl rfl rfl CellsIn.blk) ?_
          refine JO.effR rfl rfl rfl (Eff.call rfl (r_Count (rs := ss) rfl)) ?_
          refine JO.pur rfl rfl rfl (Pur.move rfl) ?_
          refine JO.pur rfl rfl rfl (Pur.extract rfl rfl) ?_
          refine JO.pur rfl rfl rfl (Pur.extract rfl rfl) ?_
          refine JO.pur rfl rfl rfl (Pur.assign rfl) ?_
          refine JO.pur rfl rfl rfl (Pur.assign rfl) ?_
          refine JO.nil ?_
          refine J.seq rfl ?_
          refine J.region rfl ?_
          refine JO.pur rfl rfl rfl (Pur.loadA rfl rfl rfl CellsIn.blk) ?_
          refine JO.effR rfl rfl rfl (Eff.call rfl (r_Count (rs := rs) rfl)) ?_
          refine JO.pur rfl rfl rfl (Pur.move rfl) ?_
          refine JO.pur rfl rfl rfl (Pur.extract rfl rfl) ?_
          refine JO.pur rfl rfl rfl (Pur.extract rfl rfl) ?_
          refine JO.pur rfl rfl rfl (Pur.assign rfl) ?_
          refine JO.pur rfl rfl rfl (Pur.assign rfl) ?_
          refine JO.nil ?_
          refine J.seq rfl ?_
          refine J.region rfl ?_
          refine JO.pur rfl rfl rfl (Pur.move rfl) ?_
          refine JO.pur rfl rfl rfl (Pur.move rfl) ?_
          refine JO.pur rfl rfl rfl (Pur.eqlI rfl rfl) ?_
          refine JO.pur rfl rfl rfl (Pur.move rfl) ?_
          refine JO.setv (u' := .bool true) 90 rfl (congrArg Value.bool (decide_eq_true (by rw [hke, q2, hct1]))) ?_
          refine JO.pur rfl rfl rfl (Pur.move rfl) ?_
          refine JO.pur rfl rfl rfl (Pur.move rfl) ?_
          refine JO.pur rfl rfl rfl (Pur.leq rfl rfl) ?_
          refine JO.pur rfl rfl rfl (Pur.pickT rfl rfl) ?_
          refine JO.pur rfl rfl rfl (Pur.move rfl) ?_
          refine JO.setv (u' := .bool true) 95 rfl (congrArg Value.bool (decide_eq_true (by rw [hke, hct2]; exact q3))) ?_
          refine JO.effR rfl rfl rfl (Eff.call rfl (awake_ok)) ?_
          refine JO.pur rfl rfl rfl (Pur.pickT rfl rfl) ?_
          refine JO.pur rfl rfl rfl (Pur.assign rfl) ?_
          refine JO.nil ?_
          refine J.ret rfl rfl ?_
          refine ⟨_, _, ⟨rfl, rfl⟩, rfl, SubC.out⟩

end Go.Proofs.Ytnhippfllgnngaa
