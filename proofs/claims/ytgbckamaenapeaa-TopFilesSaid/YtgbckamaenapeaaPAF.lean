/-
  A part of the proof of the claim that this folder bears.
-/
import Derived.Test.YtgbckamaenapeaaPAE
import Derived.Test.YtgbckamaenapeaaPAB
import Derived.Shelf.Lay
import Derived.Shelf.Sort.Plain
import Derived.Shelf.Slices.In.SortNone
import Derived.Ground.Names2Prog
import Derived.Sort.OwnSortedInts
import Derived.Test.YtgbckamaenapeaaKD
/- The text HP6. -/
/-! Writers side by side, in pieces: the file through one run of TopFiles. No program in sight. -/
set_option linter.unusedVariables false
set_option linter.unusedSimpArgs false
set_option linter.unusedSectionVars false
namespace Go.Proofs.Ytgbckamaenapeaa
open Go Go.KK Hf
theorem padg {xs : List UInt8} {n j : Nat} : (padTo xs n)[j]? = if j < xs.length then xs[j]? else if j < n then some 0 else none := by
  unfold padTo
  rw [List.getElem?_append]
  by_cases h : j < xs.length
  · rw [if_pos h, if_pos h]
  · rw [if_neg h, if_neg h, List.getElem?_replicate]
    by_cases h2 : j < n
    · rw [if_pos (by omega), if_pos h2]
    · rw [if_neg (by omega), if_neg h2]
def updN (w : Nat → Nat) (i v : Nat) : Nat → Nat := fun j => if j = i then v else w j
theorem updN_same {w : Nat → Nat} {i v : Nat} (h : w i = v) : updN w i v = w := by funext j; unfold updN; split; rename_i e; rw [e, h]; rfl
theorem updN_at {w : Nat → Nat} {i v : Nat} : updN w i v i = v := by simp [updN]
theorem updN_ne {w : Nat → Nat} {i j v : Nat} (h : j ≠ i) : updN w i v j = w j := by simp [updN, h]
section
variable (c : Nat → Nat) (p : Nat → List UInt8)
def imgL (w : Nat → Nat) : Nat → Nat
  | 0 => 0
  | k + 1 => if w k = 0 then imgL w k else max (imgL w k) (c k + w k)
def imgV (w : Nat → Nat) : Nat → Nat → UInt8
  | 0, _ => 0
  | k + 1, j => if c k ≤ j ∧ j < c k + w k then (p k).getD (j - c k) 0 else imgV w k j
def img (n : Nat) (w : Nat → Nat) : List UInt8 := (List.range (imgL c w n)).map (imgV c p w n)
end
section
variable {c : Nat → Nat} {p : Nat → List UInt8} {n : Nat}
theorem img_get {w : Nat → Nat} {j : Nat} : (img c p n w)[j]? = if j < imgL c w n then some (imgV c p w n j) else none := by
  unfold img
  rw [List.getElem?_map]
  split
  · rename_i h; rw [List.getElem?_range h]; rfl
  · rename_i h; rw [List.getElem?_eq_none (by simp; omega)]; rfl
theorem imgL_congr {w w' : Nat → Nat} : ∀ {n : Nat}, (∀ i, i < n → w i = w' i) → imgL c w n = imgL c w' n
  | 0, _ => rfl
  | k + 1, h => by rw [imgL, imgL, imgL_congr (fun i hi => h i (by omega)), h k (by omega)]
theorem imgV_congr {w w' : Nat → Nat} {j : Nat} : ∀ {n : Nat}, (∀ i, i < n → w i = w' i) → imgV c p w n j = imgV c p w' n j
  | 0, _ => rfl
  | k + 1, h => by rw [imgV, imgV, imgV_congr (fun i hi => h i (by omega)), h k (by omega)]
theorem img_congr {w w' : Nat → Nat} (h : ∀ i, i < n → w i = w' i) : img c p n w = img c p n w' := by
  apply List.ext_getElem?
  intro j
  rw [img_get, img_get, imgL_congr h, imgV_congr h]
theorem imgL_zero : ∀ {n : Nat}, imgL c (fun _ => 0) n = 0
  | 0 => rfl
  | k + 1 => by rw [imgL, if_pos rfl, imgL_zero]
theorem img_zero : img c p n (fun _ => 0) = [] := by unfold img; rw [imgL_zero]; rfl
theorem imgV_out {w : Nat → Nat} {j : Nat} : ∀ {n : Nat}, imgL c w n ≤ j → imgV c p w n j = 0
  | 0, _ => rfl
  | k + 1, h => by
    rw [imgL] at h
    by_cases hz : w k = 0
    · rw [if_pos hz] at h
      rw [imgV, if_neg (by omega), imgV_out h]
    · rw [if_neg hz] at h
      rw [imgV, if_neg (by omega), imgV_out (by omega)]
theorem imgL_le {w : Nat → Nat} {S : Nat} : ∀ {n : Nat}, (∀ i, i < n → c i + w i ≤ S) → imgL c w n ≤ S
  | 0, _ => Nat.zero_le _
  | k + 1, h => by
    have h1 := h k (by omega)
    have ih := imgL_le (n := k) (fun i hi => h i (by omega))
    rw [imgL]; split <;> omega
theorem imgL_upd {w : Nat → Nat} {i a : Nat} (hwa : w i ≤ a) (ha : 0 < a) : ∀ {n : Nat}, i < n → imgL c (updN w i a) n = max (imgL c w n) (c i + a)
  | 0, h => by omega
  | k + 1, h => by
    rw [imgL, imgL]
    by_cases e : k = i
    · subst e
      rw [updN_at, if_neg (by omega), imgL_congr (w' := w) (fun i hi => updN_ne (by omega))]
      split <;> omega
    · rw [updN_ne e, imgL_upd hwa ha (by omega)]
      split <;> omega
end
section
variable {c : Nat → Nat} {p : Nat → List UInt8} {n S : Nat} (hc : ∀ i, i < n → c i + (p i).length ≤ c (i + 1)) (hS : ∀ i, i ≤ n → c i ≤ S)
include hc hS
theorem imgV_upd {w : Nat → Nat} {i a : Nat} (hw : ∀ i, i < n → w i ≤ (p i).length) (hwa : w i ≤ a) (ha : a ≤ (p i).length) (j : Nat) : ∀ {m : Nat}, m ≤ n → i < m → imgV c p (updN w i a) m j = if c i + w i ≤ j ∧ j < c i + a then (p i).getD (j - c i) 0 else imgV c p w m j
  | 0, _, h => by omega
  | k + 1, hm, h => by
    rw [imgV, imgV]
    by_cases e : k = i
    · subst e
      rw [updN_at, imgV_congr (w' := w) (fun i hi => updN_ne (by omega))]
      by_cases h1 : c k + w k ≤ j ∧ j < c k + a
      · rw [if_pos h1, if_pos (by omega)]
      · rw [if_neg h1]
        by_cases h2 : c k ≤ j ∧ j < c k + w k
        · rw [if_pos h2, if_pos (by omega)]
        · rw [if_neg h2, if_neg (by omega)]
    · have ih := imgV_upd hw hwa ha j (m := k) (by omega) (by omega)
      have hm2 := c_mono hc hS (i := i + 1) (j := k) (by omega) (by omega)
      have hci := hc i (by omega)
      have hwk := hw k (by omega)
      rw [updN_ne e, ih]
      by_cases h1 : c i + w i ≤ j ∧ j < c i + a
      · rw [if_pos h1, if_pos h1, if_neg (by omega)]
      · rw [if_neg h1, if_neg h1]
theorem img_len {w : Nat → Nat} (hw : ∀ i, i < n → w i ≤ (p i).length) : (img c p n w).length ≤ S := by
  have : (img c p n w).length = imgL c w n := by simp [img]
  rw [this]
  exact imgL_le fun i hi => by have h1 := hc i hi; have h2 := hw i hi; have h3 := hS (i + 1) (by omega); omega
theorem img_put {w : Nat → Nat} {i a : Nat} (hw : ∀ i, i < n → w i ≤ (p i).length) (hi : i < n) (hwa : w i ≤ a) (ha : a ≤ (p i).length) (hne : w i ≠ a) :
    spl (padTo (img c p n w) (c i + w i + (((p i).take a).drop (w i)).length)) (c i + w i) (((p i).take a).drop (w i)) = img c p n (updN w i a) := by
  have hl : (((p i).take a).drop (w i)).length = a - w i := by rw [List.length_drop, List.length_take]; omega
  have hlen : (img c p n w).length = imgL c w n := by simp [img]
  rw [hl]
  apply List.ext_getElem?
  intro j
  have hpl := pad_len (img c p n w) (c i + w i + (a - w i))
  rw [spl_get (by rw [hl]; omega), hl, padg, img_get, img_get, imgL_upd hwa (by omega) hi, imgV_upd hc hS hw hwa ha j (Nat.le_refl n) hi, hlen]
  by_cases h1 : j < c i + w i
  · rw [if_pos h1]
    by_cases h2 : j < imgL c w n
    · rw [if_pos h2, if_pos h2, if_pos (by omega), if_neg (by omega)]
    · rw [if_neg h2, if_pos (by omega), if_pos (by omega), if_neg (by omega), imgV_out (by omega)]
  · rw [if_neg h1]
    by_cases h3 : j < c i + w i + (a - w i)
    · rw [if_pos h3, if_pos (by omega), if_pos (by omega), List.getElem?_drop, List.getElem?_take, if_pos (by omega), List.getD_eq_getElem?_getD, show w i + (j - (c i + w i)) = j - c i by omega, List.getElem?_eq_getElem (by omega)]
      rfl
    · rw [if_neg h3]
      by_cases h2 : j < imgL c w n
      · rw [if_pos h2, if_pos h2, if_pos (by omega), if_neg (by omega)]
      · rw [if_neg h2, if_neg (by omega), if_neg (by omega)]
end
section
variable (size : Int) (parts : List (List UInt8))
def Wt (i a w : Nat) : Ch := ⟨(i : Int) + 1, cutA size parts.length i, cutA size parts.length (i + 1), cutA size parts.length i + (a : Int), true, cutA size parts.length i + (w : Int), ((parts.getD i []).take a).drop w, []⟩
def TW (B : List UInt8) (nx : Int) (m : Nat) (a w : Nat → Nat) : Fl := ⟨B, nx, (List.range m).map (fun i => Wt size parts i (a i) (w i))⟩
def IM (w : Nat → Nat) : List UInt8 := img (cN size parts) (pN parts) parts.length w
end
theorem TW_len {size : Int} {parts : List (List UInt8)} {B : List UInt8} {nx : Int} {m : Nat} {a w : Nat → Nat} : (TW size parts B nx m a w).opens.length = m := by simp [TW]
theorem TW_ch {size : Int} {parts : List (List UInt8)} {B : List UInt8} {nx : Int} {m : Nat} {a w : Nat → Nat} {i : Nat} (h : i < m) : ch (TW size parts B nx m a w) i = Wt size parts i (a i) (w i) := by
  unfold ch; rw [List.getD_eq_getElem?_getD]; simp [TW, h]
theorem TW_ix {size : Int} {parts : List (List UInt8)} {B : List UInt8} {nx : Int} {m : Nat} {a w : Nat → Nat} {i : Nat} (h : i < m) : ix (TW size parts B nx m a w) (((i + 1 : Nat) : Int)) = some i := by
  unfold ix
  rw [List.findIdx?_eq_some_iff_getElem]
  refine ⟨by rw [TW_len]; exact h, ?_, fun j hj => ?_⟩
  · simp [TW, Wt]
  · simp [TW, Wt]; omega
theorem TW_congr {size : Int} {parts : List (List UInt8)} {B : List UInt8} {nx : Int} {m : Nat} {a w a' w' : Nat → Nat} (h1 : ∀ i, i < m → a i = a' i) (h2 : ∀ i, i < m → w i = w' i) : TW size parts B nx m a w = TW size parts B nx m a' w' := by
  unfold TW
  congr 1
  exact List.map_congr_left fun i hi => by rw [h1 i (List.mem_range.1 hi), h2 i (List.mem_range.1 hi)]
theorem TW_set {size : Int} {parts : List (List UInt8)} {m : Nat} {a w a' w' : Nat → Nat} {i : Nat} (hi : i < m) (h1 : ∀ j, j ≠ i → a' j = a j) (h2 : ∀ j, j ≠ i → w' j = w j) : ((List.range m).map (fun i => Wt size parts i (a i) (w i))).set i (Wt size parts i (a' i) (w' i)) = (List.range m).map (fun i => Wt size parts i (a' i) (w' i)) := by
  apply List.ext_getElem?
  intro j
  rw [List.getElem?_set, List.getElem?_map, List.getElem?_map]
  by_cases hj : j < m
  · rw [List.getElem?_range hj]
    by_cases e : i = j
    · subst e
      rw [if_pos rfl, if_pos (by simp [hi])]; rfl
    · rw [if_neg e, Option.map_some, Option.map_some, h1 j (Ne.symm e), h2 j (Ne.symm e)]
  · rw [List.getElem?_eq_none (by simp; omega), if_neg (by omega)]; rfl
theorem take_drop_app {α : Type} {l : List α} {w a b : Nat} (h1 : w ≤ a) (h2 : a ≤ b) (h3 : a ≤ l.length) : (l.take a).drop w ++ (l.drop a).take (b - a) = (l.take b).drop w := by
  have h := List.take_add (l := l) (i := a) (j := b - a)
  rw [show a + (b - a) = b by omega] at h
  rw [h, List.drop_append_of_le_length (by rw [List.length_take]; omega)]
section
variable {size : Int} {parts : List (List UInt8)} (hok : ¬ badC size parts.length)
include hok
theorem tw2_begin {B : List UInt8} {nx : Int} {m : Nat} (hm : m < parts.length) (hnx : nx = (m : Int) + 1) : beginF (TW size parts B nx m (fun _ => 0) (fun _ => 0)) (cutA size parts.length m) (cutA size parts.length (m + 1)) true = (TW size parts B (nx + 1) (m + 1) (fun _ => 0) (fun _ => 0), nx, 0) := by
  have h3 := cut_in hok
  have h1 := cut_nonneg hok (k := m) (by omega)
  have h2 := cut_mono hok (k := m) (by omega)
  have h4 := cut_top hok (k := m + 1) (by omega)
  have hb : (TW size parts B nx m (fun _ => 0) (fun _ => 0)).opens.any (busy true (cutA size parts.length m) (cutA size parts.length (m + 1))) = false := by
    rw [List.any_eq_false]
    intro c hc
    simp only [TW, List.mem_map, List.mem_range] at hc
    obtain ⟨j, hj, rfl⟩ := hc
    have h5 := cA_mono hok (i := j + 1) (j := m) hj (by omega)
    simp only [busy, Wt, Bool.or_true, Bool.true_and]
    intro hh
    have h6 := of_decide_eq_true hh
    omega
  unfold beginF
  rw [if_neg (by omega), if_neg (by rw [hb]; simp)]
  subst hnx
  simp [TW, List.range_succ, List.map_append, newC, Wt]
theorem tw2_one {B : List UInt8} {nx : Int} {m : Nat} (hm : m < parts.length) (hnx : nx = (m : Int) + 1) : beginF ⟨B, nx, []⟩ (cutA size parts.length m) (cutA size parts.length (m + 1)) true = (⟨B, nx + 1, [Wt size parts m 0 0]⟩, nx, 0) := by
  have h3 := cut_in hok
  have h1 := cut_nonneg hok (k := m) (by omega)
  have h2 := cut_mono hok (k := m) (by omega)
  have h4 := cut_top hok (k := m + 1) (by omega)
  unfold beginF
  rw [if_neg (by omega), if_neg (by simp)]
  subst hnx
  simp [newC, Wt]
theorem wt_write {a w b i : Nat} (hwa : w ≤ a) (hab : a ≤ b) (hb : b ≤ (parts.getD i []).length) : ({ Wt size parts i a w with pend := (Wt size parts i a w).pend ++ ((parts.getD i []).drop a).take (b - a), at' := (Wt size parts i a w).at' + ((((parts.getD i []).drop a).take (b - a)).length : Int) } : Ch) = Wt size parts i b w := by
  have hl : (((parts.getD i []).drop a).take (b - a)).length = b - a := by rw [List.length_take, List.length_drop]; omega
  rw [hl]
  simp only [Wt, Ch.mk.injEq, true_and, and_true]
  exact ⟨by omega, take_drop_app hwa hab (by omega)⟩
theorem tw2_write {B : List UInt8} {nx : Int} {m : Nat} {a w : Nat → Nat} {i b : Nat} (hi : i < m) (hwa : w i ≤ a i) (hab : a i ≤ b) (hb : b ≤ (parts.getD i []).length) (hf : fits size parts i) : writeF (TW size parts B nx m a w) ((i + 1 : Nat) : Int) (((parts.getD i []).drop (a i)).take (b - a i)) = (TW size parts B nx m (updN a i b) w, 0) := by
  have hl : (((parts.getD i []).drop (a i)).take (b - a i)).length = b - a i := by rw [List.length_take, List.length_drop]; omega
  unfold writeF
  rw [TW_ix hi]; dsimp only
  rw [TW_ch hi]
  unfold fits at hf
  rw [if_neg (by rintro (h | h); cases h; rw [hl] at h; simp only [Wt] at h; omega), wt_write hok hwa hab hb]
  simp only [upd, TW, Prod.mk.injEq, Fl.mk.injEq, and_true, true_and]
  have := TW_set (size := size) (parts := parts) (m := m) (a := a) (w := w) (a' := updN a i b) (w' := w) hi (fun j h => updN_ne h) (fun j _ => rfl)
  rw [updN_at] at this
  exact this
theorem one_write {B : List UInt8} {nx : Int} {m : Nat} (hf : fits size parts m) : writeF ⟨B, nx, [Wt size parts m 0 0]⟩ ((m + 1 : Nat) : Int) (parts.getD m []) = (⟨B, nx, [Wt size parts m (parts.getD m []).length 0]⟩, 0) := by
  have hx : ix ⟨B, nx, [Wt size parts m 0 0]⟩ ((m + 1 : Nat) : Int) = some 0 := by simp [ix, Wt]
  have hh := wt_write hok (size := size) (parts := parts) (a := 0) (w := 0) (b := (parts.getD m []).length) (i := m) (Nat.le_refl 0) (Nat.zero_le _) (Nat.le_refl _)
  rw [List.drop_zero, Nat.sub_zero, List.take_length] at hh
  unfold writeF
  rw [hx]; dsimp only
  unfold fits at hf
  have hc : ch ⟨B, nx, [Wt size parts m 0 0]⟩ 0 = Wt size parts m 0 0 := rfl
  rw [hc, if_neg (by rintro (h | h); cases h; simp only [Wt] at h; omega), hh]
  rfl
theorem put_wt (hft : ∀ k, k < parts.length → fits size parts k) {w : Nat → Nat} {i a : Nat} (hw : ∀ i, i < parts.length → w i ≤ (parts.getD i []).length) (hi : i < parts.length) (hwa : w i ≤ a) (ha : a ≤ (parts.getD i []).length) :
    putB (IM size parts w) (Wt size parts i a (w i)) = IM size parts (updN w i a) ∧ putC (Wt size parts i a (w i)) = Wt size parts i a a := by
  have hin := cut_in hok
  have hnn := cut_nonneg hok (k := i) (by omega)
  have hl : (((parts.getD i []).take a).drop (w i)).length = a - w i := by rw [List.length_drop, List.length_take]; omega
  have hz : ((parts.getD i []).take a).drop a = [] := List.drop_eq_nil_of_le (by rw [List.length_take]; omega)
  by_cases e : w i = a
  · have hp : (Wt size parts i a (w i)).pend = [] := by rw [e]; exact hz
    unfold putB putC
    rw [if_pos hp, if_pos hp, updN_same e, e]
    exact ⟨rfl, rfl⟩
  · have hp : ¬ (Wt size parts i a (w i)).pend = [] := fun h => by
      have h2 : ((parts.getD i []).take a).drop (w i) = [] := h
      rw [h2] at hl; simp at hl; omega
    unfold putB putC
    rw [if_neg hp, if_neg hp]
    constructor
    · have h := img_put (c := cN size parts) (p := pN parts) (n := parts.length) (S := size.toNat) (fit_c hok hft) (fit_s hok) (w := w) (i := i) (a := a) hw hi hwa ha e
      have hst : (Wt size parts i a (w i)).st.toNat = cN size parts i + w i := by unfold cN; simp only [Wt]; omega
      rw [hst]
      exact h
    · simp only [Wt, hz]
theorem tw2_commit (hft : ∀ k, k < parts.length → fits size parts k) {nx : Int} {m : Nat} {a w : Nat → Nat} {i : Nat} (hw : ∀ i, i < parts.length → w i ≤ a i ∧ a i ≤ (parts.getD i []).length) (hm : m ≤ parts.length) (hi : i < m) : commitF (TW size parts (IM size parts w) nx m a w) ((i + 1 : Nat) : Int) = (TW size parts (IM size parts (updN w i (a i))) nx m a (updN w i (a i)), 0) := by
  have hwi := hw i (by omega)
  obtain ⟨h1, h2⟩ := put_wt hok hft (w := w) (i := i) (a := a i) (fun i hi => by have := hw i hi; omega) (by omega) hwi.1 hwi.2
  unfold commitF
  rw [TW_ix hi]; dsimp only
  rw [TW_ch hi, if_neg (by rintro (h | h); cases h; exact h rfl)]
  unfold putF
  rw [TW_ch hi, h2, show (TW size parts (IM size parts w) nx m a w).bytes = IM size parts w from rfl, h1]
  simp only [TW, Prod.mk.injEq, Fl.mk.injEq, and_true, true_and]
  have := TW_set (size := size) (parts := parts) (m := m) (a := a) (w := w) (a' := a) (w' := updN w i (a i)) hi (fun j _ => rfl) (fun j h => updN_ne h)
  rw [updN_at] at this
  exact this
theorem tw2_close (hft : ∀ k, k < parts.length → fits size parts k) {nx : Int} {m : Nat} {a w : Nat → Nat} (hw : ∀ i, i < parts.length → w i ≤ (parts.getD i []).length) (hm : m < parts.length) (h1 : w m ≤ a m) (h2 : a m ≤ (parts.getD m []).length) : closeF (TW size parts (IM size parts w) nx (m + 1) a w) ((m + 1 : Nat) : Int) = (TW size parts (IM size parts (updN w m (a m))) nx m a w, 0) := by
  have hp := (put_wt hok hft (w := w) (i := m) (a := a m) hw hm h1 h2).1
  unfold closeF
  rw [TW_ix (by omega)]; dsimp only
  rw [TW_ch (by omega), show (TW size parts (IM size parts w) nx (m + 1) a w).bytes = IM size parts w from rfl, hp]
  simp only [TW, Prod.mk.injEq, Fl.mk.injEq, and_true, true_and]
  rw [List.range_succ, List.map_append, List.eraseIdx_append_of_length_le (by simp)]
  simp
theorem one_close (hft : ∀ k, k < parts.length → fits size parts k) {nx : Int} {m : Nat} {w : Nat → Nat} (hw : ∀ i, i < parts.length → w i ≤ (parts.getD i []).length) (hm : m < parts.length) (h0 : w m = 0) : closeF ⟨IM size parts w, nx, [Wt size parts m (parts.getD m []).length 0]⟩ ((m + 1 : Nat) : Int) = (⟨IM size parts (updN w m (parts.getD m []).length), nx, []⟩, 0) := by
  have hp := (put_wt hok hft (w := w) (i := m) (a := (parts.getD m []).length) hw hm (by omega) (Nat.le_refl _)).1
  rw [h0] at hp
  have hx : ix ⟨IM size parts w, nx, [Wt size parts m (parts.getD m []).length 0]⟩ ((m + 1 : Nat) : Int) = some 0 := by simp [ix, Wt]
  unfold closeF
  rw [hx]; dsimp only
  rw [show ch ⟨IM size parts w, nx, [Wt size parts m (parts.getD m []).length 0]⟩ 0 = Wt size parts m (parts.getD m []).length 0 from rfl, hp]
  rfl
theorem IM_len (hft : ∀ k, k < parts.length → fits size parts k) {w : Nat → Nat} (hw : ∀ i, i < parts.length → w i ≤ (parts.getD i []).length) : (IM size parts w).length ≤ 400 := by
  have hin := cut_in hok
  have := img_len (c := cN size parts) (p := pN parts) (n := parts.length) (S := size.toNat) (fit_c hok hft) (fit_s hok) (w := w) hw
  unfold IM; omega
end
theorem IM_congr {size : Int} {parts : List (List UInt8)} {w w' : Nat → Nat} (h : ∀ i, i < parts.length → w i = w' i) : IM size parts w = IM size parts w' := img_congr h
theorem IM_zero {size : Int} {parts : List (List UInt8)} : IM size parts (fun _ => 0) = [] := img_zero
def natsL (n : Nat) (f : Nat → Nat) : List Int := (List.range n).map (fun i => (f i : Int))
theorem natsL_len (n : Nat) (f : Nat → Nat) : (natsL n f).length = n := by simp [natsL]
theorem natsL_get {n i : Nat} {f : Nat → Nat} (h : i < n) : (natsL n f)[i]? = some ((f i : Nat) : Int) := by
  unfold natsL; rw [List.getElem?_map, List.getElem?_range h]; rfl
theorem natsL_set {n i v : Nat} {f : Nat → Nat} : (natsL n f).set i (v : Int) = natsL n (updN f i v) := by
  apply List.ext_getElem?
  intro j
  unfold natsL
  rw [List.getElem?_set, List.getElem?_map, List.getElem?_map, List.length_map, List.length_range]
  by_cases hj : j < n
  · rw [List.getElem?_range hj]
    by_cases e : i = j
    · subst e; rw [if_pos rfl, if_pos hj]; simp [updN]
    · rw [if_neg e]; simp [updN, Ne.symm e]
  · rw [List.getElem?_eq_none (by simp; omega)]
    split
    · rw [if_neg (by omega)]; rfl
    · rfl
theorem natsL_zero (n : Nat) : natsL n (fun _ => 0) = List.replicate n 0 := by
  unfold natsL
  apply List.ext_getElem?
  intro j
  rw [List.getElem?_map, List.getElem?_replicate]
  by_cases hj : j < n
  · rw [List.getElem?_range hj, if_pos hj]; rfl
  · rw [List.getElem?_eq_none (by simp; omega), if_neg hj]; rfl
end Go.Proofs.Ytgbckamaenapeaa

/- The text HSort. -/
/-! A list of numbers that the call owns is sorted by the library. -/
set_option linter.unusedVariables false
set_option linter.unusedSimpArgs false
namespace Go.Proofs.Ytgbckamaenapeaa
open Go Go.KK Hf Go.Shelf
def laysR : Go.Shelf.Ren := ⟨fun | 189 => 69 | 125 => 75 | 257 => 74 | 128 => 85 | 129 => 86 | 294 => 76 | 295 => 77 | 296 => 78 | 297 => 79 | 298 => 80 | 299 => 81 | 216 => 82 | 300 => 83 | 301 => 84 | 328 => 87 | 329 => 88 | 330 => 89 | 331 => 90 | 332 => 91 | 215 => 92 | 343 => 93 | n => n, fun | 28 => 34 | 3 => 3 | 46 => 106 | 0 => 0 | 51 => 116 | 53 => 118 | 4 => 4 | 183 => 109 | 182 => 108 | 131 => 113 | 5 => 5 | 9 => 9 | 218 => 119 | 222 => 123 | 228 => 125 | 229 => 126 | n => n, fun n => n⟩
theorem lays189 : Lays.n189 Try.prog laysR where
  mixed := by kernel_rfl
  f125 := Try.func75.trans (congrArg some (by kernel_rfl))
  f128 := Try.func85.trans (congrArg some (by kernel_rfl))
  f129 := Try.func86.trans (congrArg some (by kernel_rfl))
  f189 := Try.func69.trans (congrArg some (by kernel_rfl))
  f215 := Try.func92.trans (congrArg some (by kernel_rfl))
  f216 := Try.func82.trans (congrArg some (by kernel_rfl))
  f257 := Try.func74.trans (congrArg some (by kernel_rfl))
  f294 := Try.func76.trans (congrArg some (by kernel_rfl))
  f295 := Try.func77.trans (congrArg some (by kernel_rfl))
  f296 := Try.func78.trans (congrArg some (by kernel_rfl))
  f297 := Try.func79.trans (congrArg some (by kernel_rfl))
  f298 := Try.func80.trans (congrArg some (by kernel_rfl))
  f299 := Try.func81.trans (congrArg some (by kernel_rfl))
  f300 := Try.func83.trans (congrArg some (by kernel_rfl))
  f301 := Try.func84.trans (congrArg some (by kernel_rfl))
  f328 := Try.func87.trans (congrArg some (by kernel_rfl))
  f329 := Try.func88.trans (congrArg some (by kernel_rfl))
  f330 := Try.func89.trans (congrArg some (by kernel_rfl))
  f331 := Try.func90.trans (congrArg some (by kernel_rfl))
  f332 := Try.func91.trans (congrArg some (by kernel_rfl))
  f343 := Try.func93.trans (congrArg some (by kernel_rfl))
  t0 := Try.underlying0
  a0 := Try.isAgg0
  z0 := Try.sizeOf0
  v0 := Try.zeroValue0
  t3 := Try.underlying3
  a3 := Try.isAgg3
  z3 := Try.sizeOf3
  v3 := Try.zeroValue3
  t4 := Try.underlying4
  a4 := Try.isAgg4
  z4 := Try.sizeOf4
  v4 := Try.zeroValue4
  t5 := Try.underlying5
  a5 := Try.isAgg5
  z5 := Try.sizeOf5
  v5 := Try.zeroValue5
  t9 := Try.underlying9
  a9 := Try.isAgg9
  z9 := Try.sizeOf9
  v9 := Try.zeroValue9
  t28 := Try.underlying34
  a28 := Try.isAgg34
  z28 := Try.sizeOf34
  v28 := Try.zeroValue34
  t46 := Try.underlying106
  a46 := Try.isAgg106
  z46 := Try.sizeOf106
  v46 := Try.zeroValue106
  t51 := Try.underlying116
  a51 := Try.isAgg116
  z51 := Try.sizeOf116
  v51 := Try.zeroValue116
  t53 := Try.underlying118
  a53 := Try.isAgg118
  z53 := Try.sizeOf118
  v53 := Try.zeroValue118
  t131 := Try.underlying113
  a131 := Try.isAgg113
  z131 := Try.sizeOf113
  v131 := Try.zeroValue113
  t182 := Try.underlying108
  a182 := Try.isAgg108
  z182 := Try.sizeOf108
  v182 := Try.zeroValue108
  t183 := Try.underlying109
  a183 := Try.isAgg109
  z183 := Try.sizeOf109
  v183 := Try.zeroValue109
  t218 := Try.underlying119
  a218 := Try.isAgg119
  z218 := Try.sizeOf119
  v218 := Try.zeroValue119
  t222 := Try.underlying123
  a222 := Try.isAgg123
  z222 := Try.sizeOf123
  v222 := Try.zeroValue123
  t228 := Try.underlying125
  a228 := Try.isAgg125
  z228 := Try.sizeOf125
  v228 := Try.zeroValue125
  t229 := Try.underlying126
  a229 := Try.isAgg126
  z229 := Try.sizeOf126
  v229 := Try.zeroValue126
def srt (xs : List Int) : List Int := xs.mergeSort fun x y => decide (x ≤ y)
theorem srt_len (xs : List Int) : (srt xs).length = xs.length := by simp [srt]
theorem intE_all (xs : List Int) : intE.all xs = xs.map (Value.int .i64) := by
  induction xs with
  | nil => rfl
  | cons x xs ih => rw [show intE.all (x :: xs) = Value.int .i64 x :: intE.all xs by simp [Enc.all, intE], ih]; rfl
theorem putCells_all {xs ts : List Int} {spare : List Value} (hl : ts.length = xs.length) : Go.Sort.putCells (Value.int .i64) 0 ts.toArray (intE.all xs ++ spare).toArray = (intE.all ts ++ spare).toArray := by
  rw [intE_all, intE_all]
  apply Array.ext
  · simp [Go.Sort.putCells, hl]
  · intro j h1 h2
    have hj : j < xs.length + spare.length := by simpa [Go.Sort.putCells] using h1
    simp only [Go.Sort.putCells, Array.getElem_mapIdx]
    by_cases hk : j < ts.length
    · rw [if_pos (by simp; omega)]
      simp [List.getElem_append, hk]
    · rw [if_neg (by simp; omega)]
      simp [List.getElem_append, hk, show ¬ j < xs.length by omega, hl]
theorem Sort_ok {L : List Asn} {a : Option Addr} {cap : Nat} {xs : List Int} (hx : xs.length < 4611686018427387904) : CallS Try.prog 69 [.slice a xs.length cap].toArray (sl intE a cap xs :: L) (fun v M => v = .tuple #[] ∧ M = sl intE a cap (srt xs) :: L) := fun w hs => by
  obtain ⟨h1, l1, a1⟩ := hs.head
  rcases sl_iff.1 a1 with ⟨rfl, rfl, rfl⟩ | ⟨b, spare, rfl, q1, q2, q3, hb⟩
  · refine (Any.slices_Sort_int_none lays189 none 0 w).mono ?_
    rintro e w' ⟨rfl, rfl⟩
    exact ⟨_, _, ⟨rfl, rfl⟩, rfl, by simpa [srt] using hs, rfl⟩
  · have hb0 : w.heap[b]? = some (.cells (intE.all xs ++ spare).toArray intE.T (0, 0)) := l1 _ _ hb
    have hbl : b < w.heap.size := (Array.getElem?_eq_some_iff.1 hb0).1
    have hH : Go.Sort.Holds (Value.int .i64) w b 0 xs.toArray := by
      refine holds_of_blockI hb0 ?_
      rw [intE_all]; simp
    refine (Any.slices_Sort_int lays189 b 0 cap xs w hH hbl hx).mono ?_
    rintro e w' ⟨rfl, n, os, rfl⟩
    have hg := grownBy_sortedI (w := w) (g := b) (n := n) (os := os) (srt xs).toArray
    have hn := heap_sortedI (n := n) (os := os) (srt xs).toArray hb0
    rw [putCells_all (srt_len xs)] at hn
    refine ⟨_, _, ⟨rfl, rfl⟩, rfl, ?_, ?_⟩
    · refine Sat.frame hs fun k1 ha hk => ?_
      rcases sl_iff.1 ha with ⟨e1, _⟩ | ⟨b', spare', e1, q1', q2', q3', hb'⟩
      · cases e1
      · cases e1
        refine ⟨fun x => if x = b then some (.cells (intE.all (srt xs) ++ spare).toArray intE.T (0, 0)) else none, sl_iff.2 (.inr ⟨b, spare, rfl, by rw [srt_len]; exact q1, q2, by rw [srt_len]; exact q3, by simp⟩), fun x o hxo => ?_, fun x hx => ?_, fun x o hx1 hx2 => ?_⟩
        · dsimp only at hxo
          by_cases hxb : x = b
          · subst hxb; rw [if_pos rfl] at hxo; rw [← hxo]; exact hn
          · rw [if_neg hxb] at hxo; cases hxo
        · by_cases hxb : x = b
          · subst hxb; left; rw [hb']; simp
          · exact absurd (if_neg hxb) hx
        · have hxb : ¬ x = b := fun e => by rw [e, hb'] at hx2; cases hx2
          have hxs : x < w.heap.size := (Array.getElem?_eq_some_iff.1 hx1).1
          exact (hg.block x hxs (fun e => hxb (Option.some.inj e))).trans hx1
    · rfl
end Go.Proofs.Ytgbckamaenapeaa

/- The text HKeys. -/
/-! The numbers of a file's open channels: the keys of a map, collected in any order, and sorted. -/
set_option linter.unusedVariables false
set_option linter.unusedSimpArgs false
set_option maxRecDepth 10000
namespace Go.Proofs.Ytgbckamaenapeaa
open Go Go.KK Hf
def seenN (i : Nat) (w : World) : Nat := match w.heap[i]? with
  | some (.mapIter _ _ seen _) => seen.size
  | _ => 0
theorem seen_it {w : World} {mb i : Nat} {m : List (Int × Value)} {S : List Nat} {h : Hp} (hl : Hp.le h (hp w)) (hs : mpIt intK mb i m S h) : seenN i w = S.length := by
  obtain ⟨es, clock, seen, _, h2, _, _, h5, _⟩ := mpIt_iff.1 hs
  have h3 : w.heap[i]? = _ := hl _ _ h2
  unfold seenN; rw [h3]
  have := congrArg List.length h5
  simpa using this
theorem keys_it {l bx mb : Nat} {m : List (Int × Value)} {w0 : World} (A B : Asn) (T : List Nat → List Asn)
    (hy : ∀ i S j k v, m[j]? = some (k, v) → ¬ j ∈ S → (∀ x ∈ S, x < m.length) → S.Nodup → ∀ w, Sat (hp w) (A :: B :: blk bx (.cells #[.map (some mb)] 60) :: mpIt intK mb i m (j :: S) :: T S) → env w = env w0 → YieldAt Fence.wide 0 Try.prog l #[.int .i64 k] w (fun e w' => env w' = env w0 ∧ e = .returned (.bool true) ∧ Sat (hp w') (A :: B :: blk bx (.cells #[.map (some mb)] 60) :: mpIt intK mb i m (j :: S) :: T (j :: S)))) :
    ∀ w, Sat (hp w) (A :: B :: blk bx (.cells #[.map (some mb)] 60) :: mp intK mb m :: T []) → env w = env w0 → CallsIn Fence.wide 0 Try.prog 70 (#[.func (.yield l) #[] #[]] ++ #[.pointer (some ⟨bx, 0, none⟩)]) w (fun e w' => (∃ v, e = .returned v) ∧ env w' = env w0 ∧
      ∃ i S, S.Nodup ∧ (∀ j, j < m.length → j ∈ S) ∧ (∀ j ∈ S, j < m.length) ∧ Sat (hp w') (A :: B :: blk bx (.cells #[.map (some mb)] 60) :: mpIt intK mb i m S :: T S)) := by
  intro w hs he
  have e0 : (#[Value.func (.yield l) #[] #[]] ++ #[Value.pointer (some ⟨bx, 0, none⟩)]) = [Value.func (.yield l) #[] #[], Value.pointer (some ⟨bx, 0, none⟩)].toArray := by simp
  rw [e0]
  refine CallsIn.mono (JR.calls (w0 := w0) (n := 14) (X := fun M => ∃ i S, S.Nodup ∧ (∀ j, j < m.length → j ∈ S) ∧ (∀ j ∈ S, j < m.length) ∧ M = A :: B :: blk bx (.cells #[.map (some mb)] 60) :: mpIt intK mb i m S :: T S) Try.func70 rfl rfl rfl rfl rfl ?_ hs he) ?_
  · refine JR.seq ?_
    refine JR.region rfl ?_
    refine RO.pur rfl rfl rfl rfl (Pur.load rfl (CellIn.blk rfl)) ?_
    refine RO.eff rfl rfl rfl rfl (Eff.range rfl) ?_
    rintro _ _ ⟨i, rfl, rfl⟩
    refine RO.nil ?_
    refine JR.block ?_
    refine JR.loopW (ι := List Nat) (fun S => S.Nodup ∧ ∀ j ∈ S, j < m.length) (fun S => [(0, .func (.yield l) #[] #[]), (5, .pointer (some ⟨i, 0, none⟩))]) (fun S => A :: B :: blk bx (.cells #[.map (some mb)] 60) :: mpIt intK mb i m S :: T S) (fun S => m.length - S.length)
      (fun w => m.length - seenN i w) (fun S w h => by obtain ⟨h1, l1, a1⟩ := h.tail.tail.tail.head; rw [seen_it l1 a1]) [] (.cons rfl rfl (.cons rfl rfl .nil)) (fun h s => s) ⟨List.nodup_nil, by simp⟩ ?_
    rintro S ⟨hn, hlt⟩
    refine JR.seq ?_
    refine JR.region rfl ?_
    refine RO.eff rfl rfl rfl rfl (Eff.next rfl) ?_
    rintro _ _ (⟨j, kk, vv, hmj, hjS, rfl, rfl⟩ | ⟨hall, rfl, rfl⟩)
    · refine RO.pur rfl rfl rfl rfl (Pur.extract rfl rfl) ?_
      refine RO.nil ?_
      refine JR.seq ?_
      refine JR.cond rfl (fun _ => ?_) (fun h => by cases h)
      refine JR.skip ?_
      refine JR.block ?_
      refine JR.seq ?_
      refine JR.region rfl ?_
      refine RO.pur rfl rfl rfl rfl (Pur.entry rfl hmj) ?_
      refine RO.pur rfl rfl rfl rfl (Pur.extract rfl rfl) ?_
      refine RO.pur rfl rfl rfl rfl (Pur.assign rfl) ?_
      refine RO.nil ?_
      refine JR.seq ?_
      refine JR.region rfl ?_
      refine RO.pur rfl rfl rfl rfl (Pur.move rfl) ?_
      refine RO.pur rfl rfl rfl rfl (Pur.move rfl) ?_
      refine RO.yield (Q := fun v M => v = .bool true ∧ M = A :: B :: blk bx (.cells #[.map (some mb)] 60) :: mpIt intK mb i m (j :: S) :: T (j :: S)) rfl rfl rfl rfl (fun w hs he => ?_) ?_
      · have h1 := hy i S j kk vv hmj hjS hlt hn w hs he
        obtain ⟨fn, tmps, assign, body, h2, h3⟩ := h1
        refine ⟨fn, tmps, assign, body, h2, h3.mono ?_⟩
        rintro e w' ⟨he', e2, hs'⟩
        exact ⟨_, _, e2, ⟨rfl, rfl⟩, hs', he'⟩
      rintro _ M ⟨rfl, rfl⟩
      refine RO.pur rfl rfl rfl rfl (Pur.not rfl) ?_
      refine RO.nil ?_
      refine JR.cond rfl (fun h => by cases h) (fun _ => ?_)
      refine JR.skip ?_
      have hjl : j < m.length := (List.getElem?_eq_some_iff.1 hmj).1
      have hnd : (j :: S).Nodup := List.nodup_cons.2 ⟨hjS, hn⟩
      have hlt2 : ∀ x ∈ j :: S, x < m.length := fun x hx => by rcases List.mem_cons.1 hx with rfl | hx; exact hjl; exact hlt x hx
      have hle := nodup_le _ _ hnd hlt2
      simp only [List.length_cons] at hle
      exact ⟨rfl, j :: S, ⟨hnd, hlt2⟩, by simp only [List.length_cons]; omega, .cons rfl rfl (.cons rfl rfl .nil), fun h s => s⟩
    · refine RO.pur rfl rfl rfl rfl (Pur.extract rfl rfl) ?_
      refine RO.nil ?_
      refine JR.seq ?_
      refine JR.cond rfl (fun h => by cases h) (fun _ => ?_)
      refine JR.exit ?_
      exact ⟨.inr rfl, rfl, i, S, hn, hall, hlt, rfl⟩
  · rintro e w' ⟨hv, he', M, ⟨i, S, h1, h2, h3, rfl⟩, hs'⟩
    exact ⟨hv, he', i, S, h1, h2, h3, hs'⟩
end Go.Proofs.Ytgbckamaenapeaa

/- The text HRR. -/
/-!
  How the document's file lies in memory: a slice of records.
-/
set_option linter.unusedVariables false
set_option linter.unusedSimpArgs false
namespace Go.Proofs.Ytgbckamaenapeaa
open Go Go.KK Hf
structure Rc where
  num : Int
  fr : Int
  to : Int
  at' : Int
  wr : Bool
  st : Int
  ap : Option Addr
  np : Nat
  cp : Nat
  am : Option Addr
  nm : Nat
  cm : Nat
  deriving Inhabited
def rcE : Enc Rc := ⟨96, 8, fun r => [.int .i64 r.num, .int .i64 r.fr, .int .i64 r.to, .int .i64 r.at', .bool r.wr, .int .i64 r.st, .slice r.ap r.np r.cp, .slice r.am r.nm r.cm], fun _ => rfl, fun s v h => by
  simp only [List.mem_cons, List.not_mem_nil, or_false] at h; rcases h with rfl | rfl | rfl | rfl | rfl | rfl | rfl | rfl <;> rfl⟩
/-- A record of a channel whose bytes and marks lie where r says. -/
def rcOf (r : Cr) (c : Ch) : Rc := ⟨c.num, c.fr, c.to, c.at', c.wr, c.st, r.ap, c.pend.length, r.cp, r.am, c.marks.length, r.cm⟩
def rcL (rs : List Cr) (cs : List Ch) : List Rc := List.zipWith rcOf rs cs
def rmA (r : Cr) (c : Ch) : Asn := star [sl byE r.ap r.cp c.pend, sl intE r.am r.cm c.marks]
def rmL (rs : List Cr) (cs : List Ch) : List Asn := List.zipWith rmA rs cs
structure Rr where
  ab : Option Addr
  cb : Nat
  ao : Option Addr
  co : Nat
  rs : List Cr
def rfC (q : Rr) (F : Fl) : List Value := [.slice q.ab F.bytes.length q.cb, .slice q.ao F.opens.length q.co, .int .i64 F.next]
def RA (p : Nat) (F : Fl) : Asn := fun h => ∃ q : Rr, q.rs.length = F.opens.length ∧ star [blk p (.cells (rfC q F).toArray 93), sl byE q.ab q.cb F.bytes, sl rcE q.ao q.co (rcL q.rs F.opens), star (rmL q.rs F.opens)] h
theorem RA_mk {p : Nat} {F : Fl} {ab ao : Option Addr} {cb co : Nat} {rs : List Cr} {L : List Asn} {h : Hp} (hr : rs.length = F.opens.length)
    (s : Sat h (blk p (.cells #[.slice ab F.bytes.length cb, .slice ao F.opens.length co, .int .i64 F.next] 93) :: sl byE ab cb F.bytes :: sl rcE ao co (rcL rs F.opens) :: star (rmL rs F.opens) :: L)) : Sat h (RA p F :: L) := by
  have h1 := (Sat.star (M := [blk p (.cells (rfC ⟨ab, cb, ao, co, rs⟩ F).toArray 93), sl byE ab cb F.bytes, sl rcE ao co (rcL rs F.opens), star (rmL rs F.opens)]) (L := L)).2 s
  exact h1.cons_imp (fun k hk => ⟨⟨ab, cb, ao, co, rs⟩, hr, hk⟩) (fun _ h => h)
theorem RA_open {p : Nat} {F : Fl} {L : List Asn} {c : Cx} {G : Fr} {k : List Item}
    (h : ∀ (ab : Option Addr) (cb : Nat) (ao : Option Addr) (co : Nat) (rs : List Cr), rs.length = F.opens.length → J c G (blk p (.cells #[.slice ab F.bytes.length cb, .slice ao F.opens.length co, .int .i64 F.next] 93) :: sl byE ab cb F.bytes :: sl rcE ao co (rcL rs F.opens) :: star (rmL rs F.opens) :: L) k) : J c G (RA p F :: L) k := by
  refine J.ex (A := fun q : Rr => fun h => q.rs.length = F.opens.length ∧ star [blk p (.cells (rfC q F).toArray 93), sl byE q.ab q.cb F.bytes, sl rcE q.ao q.co (rcL q.rs F.opens), star (rmL q.rs F.opens)] h) fun q => ?_
  refine J.prop fun hr => ?_
  refine J.star ?_
  exact h q.ab q.cb q.ao q.co q.rs hr
theorem zip_set {α β γ : Type} {f : α → β → γ} {rs : List α} {cs : List β} {i : Nat} {r' : α} {c' : β} : (List.zipWith f rs cs).set i (f r' c') = List.zipWith f (rs.set i r') (cs.set i c') := by
  apply List.ext_getElem?
  intro j
  rw [List.getElem?_set, List.getElem?_zipWith, List.getElem?_zipWith, List.getElem?_set, List.getElem?_set, List.length_zipWith]
  by_cases hij : i = j
  · subst hij
    rw [if_pos rfl, if_pos rfl, if_pos rfl]
    by_cases h1 : i < rs.length
    · by_cases h2 : i < cs.length
      · rw [if_pos (by omega), if_pos h1, if_pos h2]
      · rw [if_neg (by omega), if_pos h1, if_neg h2]
    · rw [if_neg (by omega), if_neg h1]
  · rw [if_neg hij, if_neg hij, if_neg hij]
theorem rcL_set {rs : List Cr} {cs : List Ch} {i : Nat} {r' : Cr} {c' : Ch} : (rcL rs cs).set i (rcOf r' c') = rcL (rs.set i r') (cs.set i c') := zip_set
theorem rcL_len {rs : List Cr} {cs : List Ch} (h : rs.length = cs.length) : (rcL rs cs).length = cs.length := by simp [rcL, h]
theorem rcL_get {rs : List Cr} {cs : List Ch} {i : Nat} {r : Cr} {c : Ch} (h1 : rs[i]? = some r) (h2 : cs[i]? = some c) : (rcL rs cs)[i]? = some (rcOf r c) := by
  unfold rcL; rw [List.getElem?_zipWith, h1, h2]
theorem rmL_get {rs : List Cr} {cs : List Ch} {i : Nat} {r : Cr} {c : Ch} (h1 : rs[i]? = some r) (h2 : cs[i]? = some c) : (rmL rs cs)[i]? = some (rmA r c) := by
  unfold rmL; rw [List.getElem?_zipWith, h1, h2]
theorem rcL_snoc {rs : List Cr} {cs : List Ch} (h : rs.length = cs.length) (r : Cr) (c : Ch) : rcL (rs ++ [r]) (cs ++ [c]) = rcL rs cs ++ [rcOf r c] := by
  unfold rcL; rw [List.zipWith_append h]; rfl
theorem rmL_snoc {rs : List Cr} {cs : List Ch} (h : rs.length = cs.length) (r : Cr) (c : Ch) : rmL (rs ++ [r]) (cs ++ [c]) = rmL rs cs ++ [rmA r c] := by
  unfold rmL; rw [List.zipWith_append h]; rfl
theorem zip_erase {α β γ : Type} {f : α → β → γ} : ∀ {rs : List α} {cs : List β} {i : Nat}, rs.length = cs.length → (List.zipWith f rs cs).eraseIdx i = List.zipWith f (rs.eraseIdx i) (cs.eraseIdx i)
  | [], [], _, _ => by simp
  | [], _ :: _, _, h => by simp at h
  | _ :: _, [], _, h => by simp at h
  | r :: rs, c :: cs, 0, _ => by simp
  | r :: rs, c :: cs, i + 1, h => by simp only [List.zipWith_cons_cons, List.eraseIdx_cons_succ]; rw [zip_erase (by simpa using h)]
/-- What a channel has is taken out of the list. -/
theorem rm_take {rs : List Cr} {cs : List Ch} {i : Nat} {r : Cr} {c : Ch} {L R : List Asn} [p : StarP (rmL rs cs) L R] {h : Hp} (h1 : rs[i]? = some r) (h2 : cs[i]? = some c) (s : Sat h L) :
    Sat h (sl byE r.ap r.cp c.pend :: sl intE r.am r.cm c.marks :: star ((rmL rs cs).eraseIdx i) :: R) :=
  Sat.star.1 (star_open (rmL_get h1 h2) (s.perm p.out))
/-- And put back, turned. -/
theorem rm_put {rs : List Cr} {cs : List Ch} {i : Nat} {r : Cr} {c c' : Ch} {b : Nat} {ap am : Option Addr} {cp cm : Nat} {L : List Asn} {h : Hp} (h1 : rs[i]? = some r) (h2 : cs[i]? = some c)
    (s : Sat h (sl byE ap cp c'.pend :: sl intE am cm c'.marks :: star ((rmL rs cs).eraseIdx i) :: L)) :
    Sat h (star (rmL (rs.set i ⟨b, ap, cp, am, cm⟩) (cs.set i c')) :: L) := by
  have e : (rmL rs cs).set i (rmA ⟨b, ap, cp, am, cm⟩ c') = rmL (rs.set i ⟨b, ap, cp, am, cm⟩) (cs.set i c') := zip_set
  rw [← e]
  refine star_shut (rmL_get h1 h2) ?_
  exact (Sat.star (M := [sl byE ap cp c'.pend, sl intE am cm c'.marks])).2 s
/-- The whole file, with a channel turned. -/
theorem RA_shut {p : Nat} {F : Fl} {bs : List UInt8} {nx : Int} {ab ao : Option Addr} {cb co : Nat} {rs : List Cr} {i : Nat} {r : Cr} {c' : Ch} {ap am : Option Addr} {cp cm : Nat} {L : List Asn} {h : Hp} (hr : rs.length = F.opens.length) (h1 : rs[i]? = some r) (h2 : F.opens[i]? = some (ch F i))
    (s : Sat h (sl byE ap cp c'.pend :: sl intE am cm c'.marks :: star ((rmL rs F.opens).eraseIdx i) ::
      blk p (.cells #[.slice ab bs.length cb, .slice ao F.opens.length co, .int .i64 nx] 93) :: sl byE ab cb bs :: sl rcE ao co ((rcL rs F.opens).set i (rcOf ⟨r.b, ap, cp, am, cm⟩ c')) :: L)) : Sat h (RA p ⟨bs, nx, F.opens.set i c'⟩ :: L) := by
  have s2 := rm_put (b := r.b) (c' := c') h1 h2 s
  rw [rcL_set] at s2
  refine RA_mk (F := ⟨bs, nx, F.opens.set i c'⟩) (ab := ab) (cb := cb) (ao := ao) (co := co) (rs := rs.set i ⟨r.b, ap, cp, am, cm⟩) (by simp [hr]) ?_
  dsimp only
  rw [List.length_set]
  exact SubC.out h s2
end Go.Proofs.Ytgbckamaenapeaa

/- The text HRf1. -/
set_option linter.unusedVariables false
set_option linter.unusedSimpArgs false
set_option maxRecDepth 10000
namespace Go.Proofs.Ytgbckamaenapeaa
open Go Go.KK Hf

theorem ch_get {F : Fl} {k : Nat} (h : k < F.opens.length) : F.opens[k]? = some (ch F k) := by simp [ch, List.getD_eq_getElem?_getD, h]
def ixI (F : Fl) (n : Int) : Int := match ix F n with
  | none => -1
  | some i => (i : Int)
theorem ixI_at {F : Fl} {n : Int} {k : Nat} (hk : k < F.opens.length) (h : ∀ j, j < k → ¬ (ch F j).num = n) (he : (ch F k).num = n) : ixI F n = (k : Int) := by
  have e : ix F n = some k := by
    unfold ix
    rw [List.findIdx?_eq_some_iff_getElem]
    refine ⟨hk, ?_, fun j hj => ?_⟩
    · have := ch_get hk; rw [List.getElem?_eq_getElem hk] at this; rw [Option.some.inj this]; simp [he]
    · have := ch_get (F := F) (k := j) (by omega); rw [List.getElem?_eq_getElem (by omega)] at this; rw [Option.some.inj this]; simp; exact fun e => h j hj e.symm
  unfold ixI; rw [e]
theorem ixI_none {F : Fl} {n : Int} (h : ∀ j, j < F.opens.length → ¬ (ch F j).num = n) : ixI F n = -1 := by
  have e : ix F n = none := by
    unfold ix
    rw [List.findIdx?_eq_none_iff]
    intro c hc
    obtain ⟨j, hj, rfl⟩ := List.getElem_of_mem hc
    have := ch_get hj; rw [List.getElem?_eq_getElem hj] at this
    have h2 := h j hj; rw [← Option.some.inj this] at h2; simp; exact fun e => h2 e.symm
  unfold ixI; rw [e]
theorem rfind_ok {L : List Asn} {p : Nat} {F : Fl} {n : Int} {v1 v3 : Value} {ao : Option Addr} {co : Nat} {rs : List Cr} [hb : BlkIn L p (.cells #[v1, .slice ao F.opens.length co, v3] 93)] [hi : SlIn rcE L ao (rcL rs F.opens)] (hr : rs.length = F.opens.length) (hol : F.opens.length ≤ 100000) :
    CallS Try.prog 65 [.pointer (some ⟨p, 0, none⟩), .int .i64 n].toArray L (fun v M => v = .int .i64 (ixI F n) ∧ M = L) := by
  refine CallS.enter Try.func65 rfl rfl rfl rfl rfl ?_
  refine J.seq rfl ?_
  refine J.region rfl ?_
  refine JO.pur rfl rfl rfl (Pur.assign rfl) ?_
  refine JO.nil ?_
  refine J.seq rfl ?_
  refine J.seq rfl ?_
  refine J.region rfl ?_
  refine JO.pur rfl rfl rfl (Pur.assign rfl) ?_
  refine JO.nil ?_
  refine J.block rfl ?_
  refine J.loopF (ι := Nat) (fun q => q ≤ F.opens.length ∧ ∀ j, j < q → ¬ (ch F j).num = n) (fun q => [(5, .int .i64 (q : Int))]) [(0, _), (1, _)] (fun q => L) (fun q => F.opens.length - q) 0 rfl (.cons rfl rfl (.cons rfl rfl .nil)) (.cons rfl rfl .nil) (by first | exact fun _ h => h | exact SubC.out | (dsimp only; exact SubC.out)) ⟨Nat.zero_le _, fun j hj => by omega⟩ ?_
  rintro k ⟨hk, hno⟩ ih0
  try dsimp only
  refine J.seq rfl ?_
  refine J.seq rfl ?_
  refine J.region rfl ?_
  refine JO.pur rfl rfl rfl (Pur.move rfl) ?_
  refine JO.pur rfl rfl rfl (Pur.move rfl) ?_
  refine JO.pur rfl rfl rfl (Pur.nilCheck rfl) ?_
  refine JO.pur rfl rfl rfl (Pur.fieldAddr rfl) ?_
  refine JO.pur rfl rfl rfl (Pur.load rfl (CellIn.blk rfl)) ?_
  refine JO.pur rfl rfl rfl (Pur.len rfl) ?_
  refine JO.pur rfl rfl rfl (Pur.lss rfl rfl) ?_
  refine JO.nil ?_
  refine J.splitB 12 rfl (fun h12 => ?_) (fun h12 => ?_)
  · try simp only [decide_eq_true_eq, decide_eq_false_iff_not, Bool.not_eq_true', Bool.not_eq_false', Bool.and_eq_true, Bool.or_eq_true, Bool.and_eq_false_iff, Bool.or_eq_false_iff, Option.isNone_some, Option.isSome_some, Option.isNone_none, Option.isSome_none, Int.not_lt, Int.not_le, beq_iff_eq, beq_eq_false_iff_ne, bne_iff_ne, ne_eq, Bool.not_not, Decidable.not_not] at h12
    have hkl : k < F.opens.length := by omega
    have hrl := rcL_len hr
    have hch := ch_get hkl
    obtain ⟨r, hrg⟩ : ∃ r, rs[k]? = some r := ⟨_, List.getElem?_eq_getElem (by omega)⟩
    have hrc := rcL_get hrg hch
    refine J.condT rfl rfl ?_
    refine J.skip rfl ?_
    refine J.seq rfl ?_
    refine J.block rfl ?_
    refine J.seq rfl ?_
    refine J.region rfl ?_
    refine JO.pur rfl rfl rfl (Pur.move rfl) ?_
    refine JO.pur rfl rfl rfl (Pur.nilCheck rfl) ?_
    refine JO.pur rfl rfl rfl (Pur.fieldAddr rfl) ?_
    refine JO.pur rfl rfl rfl (Pur.load rfl (CellIn.blk rfl)) ?_
    refine JO.pur rfl rfl rfl (Pur.move rfl) ?_
    refine JO.pur rfl rfl rfl (Pur.idx rfl rfl rfl (by first | rfl | (simp; done) | omega) rfl (by omega)) ?_
    refine JO.pur rfl rfl rfl (Pur.fieldAddr rfl) ?_
    refine JO.pur rfl rfl rfl (Pur.load rfl (CellIn.el rfl hrc rfl)) ?_
    refine JO.setv (u' := .int .i64 (ch F k).num) 22 rfl rfl ?_
    refine JO.pur rfl rfl rfl (Pur.move rfl) ?_
    refine JO.pur rfl rfl rfl (Pur.eqlI rfl rfl) ?_
    refine JO.nil ?_
    refine J.splitB 24 rfl (fun h24 => ?_) (fun h24 => ?_)
    · try simp only [decide_eq_true_eq, decide_eq_false_iff_not, Bool.not_eq_true', Bool.not_eq_false', Bool.and_eq_true, Bool.or_eq_true, Bool.and_eq_false_iff, Bool.or_eq_false_iff, Option.isNone_some, Option.isSome_some, Option.isNone_none, Option.isSome_none, Int.not_lt, Int.not_le, beq_iff_eq, beq_eq_false_iff_ne, bne_iff_ne, ne_eq, Bool.not_not, Decidable.not_not] at h24
      refine J.condT rfl rfl ?_
      refine J.seq rfl ?_
      refine J.region rfl ?_
      refine JO.pur rfl rfl rfl (Pur.move rfl) ?_
      refine JO.pur rfl rfl rfl (Pur.assign rfl) ?_
      refine JO.nil ?_
      refine J.ret rfl rfl ?_
      exact ⟨congrArg (Value.int .i64) (ixI_at hkl hno h24).symm, rfl⟩
    · try simp only [decide_eq_true_eq, decide_eq_false_iff_not, Bool.not_eq_true', Bool.not_eq_false', Bool.and_eq_true, Bool.or_eq_true, Bool.and_eq_false_iff, Bool.or_eq_false_iff, Option.isNone_some, Option.isSome_some, Option.isNone_none, Option.isSome_none, Int.not_lt, Int.not_le, beq_iff_eq, beq_eq_false_iff_ne, bne_iff_ne, ne_eq, Bool.not_not, Decidable.not_not] at h24
      have hno2 : ∀ j, j < k + 1 → ¬ (ch F j).num = n := fun j hj => by
        rcases Nat.lt_or_ge j k with h | h
        · exact hno j h
        · rw [show j = k by omega]; exact h24
      refine J.condF rfl rfl ?_
      refine J.skip rfl ?_
      refine J.inBlock ?_
      refine J.region rfl ?_
      refine JO.pur rfl rfl rfl (Pur.move rfl) ?_
      refine JO.pur rfl rfl rfl (Pur.add rfl rfl (wr64 (by omega))) ?_
      refine JO.pur rfl rfl rfl (Pur.assign rfl) ?_
      refine JO.nil ?_
      exact J.weaken (.cons rfl (congrArg (Value.int .i64) (by first | rfl | (dsimp only; omega))) (.cons rfl rfl (.cons rfl rfl .nil))) (by first | exact fun _ h => h | exact SubC.out | (dsimp only; exact SubC.out)) (ih0 (k + 1) ⟨(by omega), hno2⟩ (by omega))
  · try simp only [decide_eq_true_eq, decide_eq_false_iff_not, Bool.not_eq_true', Bool.not_eq_false', Bool.and_eq_true, Bool.or_eq_true, Bool.and_eq_false_iff, Bool.or_eq_false_iff, Option.isNone_some, Option.isSome_some, Option.isNone_none, Option.isSome_none, Int.not_lt, Int.not_le, beq_iff_eq, beq_eq_false_iff_ne, bne_iff_ne, ne_eq, Bool.not_not, Decidable.not_not] at h12
    refine J.condF rfl rfl ?_
    refine J.exit rfl rfl ?_
    refine J.seq rfl ?_
    refine J.region rfl ?_
    refine JO.pur rfl rfl rfl (Pur.assign rfl) ?_
    refine JO.nil ?_
    refine J.ret rfl rfl ?_
    exact ⟨congrArg (Value.int .i64) (ixI_none (F := F) (n := n) (fun j hj => hno j (by omega))).symm, rfl⟩

theorem rfind_no {L : List Asn} {p : Nat} {F : Fl} {n : Int} {v1 v3 : Value} {ao : Option Addr} {co : Nat} {rs : List Cr} [hb : BlkIn L p (.cells #[v1, .slice ao F.opens.length co, v3] 93)] [hi : SlIn rcE L ao (rcL rs F.opens)] (hr : rs.length = F.opens.length) (hol : F.opens.length ≤ 100000) (hx : ix F n = none) : CallS Try.prog 65 [.pointer (some ⟨p, 0, none⟩), .int .i64 n].toArray L (fun v M => v = .int .i64 (-1) ∧ M = L) := by
  have h := rfind_ok (L := L) (p := p) (F := F) (n := n) (v1 := v1) (v3 := v3) (ao := ao) (co := co) (rs := rs) hr hol
  rw [show ixI F n = -1 by unfold ixI; rw [hx]] at h; exact h
theorem rfind_yes {L : List Asn} {p : Nat} {F : Fl} {n : Int} {v1 v3 : Value} {ao : Option Addr} {co : Nat} {rs : List Cr} [hb : BlkIn L p (.cells #[v1, .slice ao F.opens.length co, v3] 93)] [hi : SlIn rcE L ao (rcL rs F.opens)] (hr : rs.length = F.opens.length) (hol : F.opens.length ≤ 100000) {i : Nat} (hx : ix F n = some i) : CallS Try.prog 65 [.pointer (some ⟨p, 0, none⟩), .int .i64 n].toArray L (fun v M => v = .int .i64 (i : Int) ∧ M = L) := by
  have h := rfind_ok (L := L) (p := p) (F := F) (n := n) (v1 := v1) (v3 := v3) (ao := ao) (co := co) (rs := rs) hr hol
  rw [show ixI F n = (i : Int) by unfold ixI; rw [hx]] at h; exact h
theorem rPlace_no {L : List Asn} {p : Nat} {F : Fl} {n : Int} {k : Nat} (g : Hf.Good F k) (hk : k ≤ 100000) (hx : ix F n = none) :
    CallS Try.prog 54 [.pointer (some ⟨p, 0, none⟩), .int .i64 n].toArray (RA p F :: L) (fun v M => v = .tuple #[.int .i64 (placeF F n).1, .int .i64 (placeF F n).2] ∧ M = RA p F :: L) := by
  refine CallS.ent ?_
  refine CallS.enter Try.func54 rfl rfl rfl rfl rfl ?_
  refine J.seq rfl ?_
  refine RA_open fun ab cb ao co rs hr => ?_
  refine J.region rfl ?_
  refine JO.pur rfl rfl rfl (Pur.assign rfl) ?_
  refine JO.pur rfl rfl rfl (Pur.assign rfl) ?_
  refine JO.nil ?_
  refine J.seq rfl ?_
  refine J.region rfl ?_
  refine JO.pur rfl rfl rfl (Pur.move rfl) ?_
  refine JO.pur rfl rfl rfl (Pur.move rfl) ?_
  refine JO.effR rfl rfl rfl (Eff.call rfl (rfind_no hr (Nat.le_trans g.ol hk) hx)) ?_
  refine JO.pur rfl rfl rfl (Pur.assign rfl) ?_
  refine JO.nil ?_
  refine J.seq rfl ?_
  refine J.seq rfl ?_
  refine J.region rfl ?_
  refine JO.pur rfl rfl rfl (Pur.move rfl) ?_
  refine JO.pur rfl rfl rfl (Pur.lss rfl rfl) ?_
  refine JO.setv (u' := .bool true) 11 rfl (congrArg Value.bool (rfl)) ?_
  refine JO.nil ?_
  refine J.condT rfl rfl ?_
  refine J.seq rfl ?_
  refine J.region rfl ?_
  refine JO.pur rfl rfl rfl (Pur.assign rfl) ?_
  refine JO.pur rfl rfl rfl (Pur.assign rfl) ?_
  refine JO.nil ?_
  refine J.ret rfl rfl ?_
  have hv : placeF F n = (0, 5) := by unfold placeF; rw [hx]
  refine ⟨_, _, ⟨rfl, rfl⟩, by rw [hv]; rfl, fun h s => ?_⟩
  skip
  exact RA_mk (ab := ab) (cb := cb) (ao := ao) (co := co) hr (SubC.out h s)

theorem rPlace_yes {L : List Asn} {p : Nat} {F : Fl} {n : Int} {i : Nat} {k : Nat} (g : Hf.Good F k) (hk : k ≤ 100000) (hx : ix F n = some i) :
    CallS Try.prog 54 [.pointer (some ⟨p, 0, none⟩), .int .i64 n].toArray (RA p F :: L) (fun v M => v = .tuple #[.int .i64 (placeF F n).1, .int .i64 (placeF F n).2] ∧ M = RA p F :: L) := by
  refine CallS.ent ?_
  refine CallS.enter Try.func54 rfl rfl rfl rfl rfl ?_
  refine J.seq rfl ?_
  refine RA_open fun ab cb ao co rs hr => ?_
  obtain ⟨hil, hch, hnum⟩ := ix_some hx
  obtain ⟨r, hrg⟩ : ∃ r, rs[i]? = some r := ⟨_, List.getElem?_eq_getElem (by omega)⟩
  have hrl := rcL_len hr
  have hrc := rcL_get hrg hch
  have gc := g.gc _ (ch_mem hx)
  have gmk := g.mks _ (ch_mem hx)
  have gb := g.b4
  have gf0 := gc.f0
  have gft := gc.ft
  have gt4 := gc.t4
  have gfa := gc.fa
  have ga4 := gc.at4
  refine J.region rfl ?_
  refine JO.pur rfl rfl rfl (Pur.assign rfl) ?_
  refine JO.pur rfl rfl rfl (Pur.assign rfl) ?_
  refine JO.nil ?_
  refine J.seq rfl ?_
  refine J.region rfl ?_
  refine JO.pur rfl rfl rfl (Pur.move rfl) ?_
  refine JO.pur rfl rfl rfl (Pur.move rfl) ?_
  refine JO.effR rfl rfl rfl (Eff.call rfl (rfind_yes hr (Nat.le_trans g.ol hk) hx)) ?_
  refine JO.pur rfl rfl rfl (Pur.assign rfl) ?_
  refine JO.nil ?_
  refine J.seq rfl ?_
  refine J.seq rfl ?_
  refine J.region rfl ?_
  refine JO.pur rfl rfl rfl (Pur.move rfl) ?_
  refine JO.pur rfl rfl rfl (Pur.lss rfl rfl) ?_
  refine JO.setv (u' := .bool false) 11 rfl (congrArg Value.bool (by simp)) ?_
  refine JO.nil ?_
  refine J.condF rfl rfl ?_
  refine J.skip rfl ?_
  refine J.seq rfl ?_
  refine J.region rfl ?_
  refine JO.pur rfl rfl rfl (Pur.move rfl) ?_
  refine JO.pur rfl rfl rfl (Pur.nilCheck rfl) ?_
  refine JO.pur rfl rfl rfl (Pur.fieldAddr rfl) ?_
  refine JO.pur rfl rfl rfl (Pur.load rfl (CellIn.blk rfl)) ?_
  refine JO.pur rfl rfl rfl (Pur.move rfl) ?_
  refine JO.pur rfl rfl rfl (Pur.idx rfl rfl rfl (by first | rfl | (simp; done) | omega) rfl (by omega)) ?_
  refine JO.pur rfl rfl rfl (Pur.fieldAddr rfl) ?_
  refine JO.pur rfl rfl rfl (Pur.load rfl (CellIn.el rfl hrc rfl)) ?_
  refine JO.setv (u' := .int .i64 (ch F i).at') 19 rfl rfl ?_
  refine JO.pur rfl rfl rfl (Pur.assign rfl) ?_
  refine JO.pur rfl rfl rfl (Pur.assign rfl) ?_
  refine JO.nil ?_
  refine J.ret rfl rfl ?_
  have hv : placeF F n = ((ch F i).at', 0) := by unfold placeF; rw [hx]
  refine ⟨_, _, ⟨rfl, rfl⟩, by rw [hv]; rfl, fun h s => ?_⟩
  exact RA_mk (ab := ab) (cb := cb) (ao := ao) (co := co) hr (SubC.out h s)

theorem rPlace_ok {L : List Asn} {p : Nat} {F : Fl} {n : Int} {k : Nat} (g : Hf.Good F k) (hk : k ≤ 100000) : CallS Try.prog 54 [.pointer (some ⟨p, 0, none⟩), .int .i64 n].toArray (RA p F :: L) (fun v M => v = .tuple #[.int .i64 (placeF F n).1, .int .i64 (placeF F n).2] ∧ M = RA p F :: L) := by
  cases hx : ix F n with
  | none => exact rPlace_no  g hk hx
  | some i => exact rPlace_yes  g hk hx
theorem rLeft_no {L : List Asn} {p : Nat} {F : Fl} {n : Int} {k : Nat} (g : Hf.Good F k) (hk : k ≤ 100000) (hx : ix F n = none) :
    CallS Try.prog 55 [.pointer (some ⟨p, 0, none⟩), .int .i64 n].toArray (RA p F :: L) (fun v M => v = .tuple #[.int .i64 (leftF F n).1, .int .i64 (leftF F n).2] ∧ M = RA p F :: L) := by
  refine CallS.ent ?_
  refine CallS.enter Try.func55 rfl rfl rfl rfl rfl ?_
  refine J.seq rfl ?_
  refine RA_open fun ab cb ao co rs hr => ?_
  refine J.region rfl ?_
  refine JO.pur rfl rfl rfl (Pur.assign rfl) ?_
  refine JO.pur rfl rfl rfl (Pur.assign rfl) ?_
  refine JO.nil ?_
  refine J.seq rfl ?_
  refine J.region rfl ?_
  refine JO.pur rfl rfl rfl (Pur.move rfl) ?_
  refine JO.pur rfl rfl rfl (Pur.move rfl) ?_
  refine JO.effR rfl rfl rfl (Eff.call rfl (rfind_no hr (Nat.le_trans g.ol hk) hx)) ?_
  refine JO.pur rfl rfl rfl (Pur.assign rfl) ?_
  refine JO.nil ?_
  refine J.seq rfl ?_
  refine J.seq rfl ?_
  refine J.region rfl ?_
  refine JO.pur rfl rfl rfl (Pur.move rfl) ?_
  refine JO.pur rfl rfl rfl (Pur.lss rfl rfl) ?_
  refine JO.setv (u' := .bool true) 11 rfl (congrArg Value.bool (rfl)) ?_
  refine JO.nil ?_
  refine J.condT rfl rfl ?_
  refine J.seq rfl ?_
  refine J.region rfl ?_
  refine JO.pur rfl rfl rfl (Pur.assign rfl) ?_
  refine JO.pur rfl rfl rfl (Pur.assign rfl) ?_
  refine JO.nil ?_
  refine J.ret rfl rfl ?_
  have hv : leftF F n = (0, 5) := by unfold leftF; rw [hx]
  refine ⟨_, _, ⟨rfl, rfl⟩, by rw [hv]; rfl, fun h s => ?_⟩
  skip
  exact RA_mk (ab := ab) (cb := cb) (ao := ao) (co := co) hr (SubC.out h s)

theorem rLeft_yes {L : List Asn} {p : Nat} {F : Fl} {n : Int} {i : Nat} {k : Nat} (g : Hf.Good F k) (hk : k ≤ 100000) (hx : ix F n = some i) :
    CallS Try.prog 55 [.pointer (some ⟨p, 0, none⟩), .int .i64 n].toArray (RA p F :: L) (fun v M => v = .tuple #[.int .i64 (leftF F n).1, .int .i64 (leftF F n).2] ∧ M = RA p F :: L) := by
  refine CallS.ent ?_
  refine CallS.enter Try.func55 rfl rfl rfl rfl rfl ?_
  refine J.seq rfl ?_
  refine RA_open fun ab cb ao co rs hr => ?_
  obtain ⟨hil, hch, hnum⟩ := ix_some hx
  obtain ⟨r, hrg⟩ : ∃ r, rs[i]? = some r := ⟨_, List.getElem?_eq_getElem (by omega)⟩
  have hrl := rcL_len hr
  have hrc := rcL_get hrg hch
  have gc := g.gc _ (ch_mem hx)
  have gmk := g.mks _ (ch_mem hx)
  have gb := g.b4
  have gf0 := gc.f0
  have gft := gc.ft
  have gt4 := gc.t4
  have gfa := gc.fa
  have ga4 := gc.at4
  refine J.region rfl ?_
  refine JO.pur rfl rfl rfl (Pur.assign rfl) ?_
  refine JO.pur rfl rfl rfl (Pur.assign rfl) ?_
  refine JO.nil ?_
  refine J.seq rfl ?_
  refine J.region rfl ?_
  refine JO.pur rfl rfl rfl (Pur.move rfl) ?_
  refine JO.pur rfl rfl rfl (Pur.move rfl) ?_
  refine JO.effR rfl rfl rfl (Eff.call rfl (rfind_yes hr (Nat.le_trans g.ol hk) hx)) ?_
  refine JO.pur rfl rfl rfl (Pur.assign rfl) ?_
  refine JO.nil ?_
  refine J.seq rfl ?_
  refine J.seq rfl ?_
  refine J.region rfl ?_
  refine JO.pur rfl rfl rfl (Pur.move rfl) ?_
  refine JO.pur rfl rfl rfl (Pur.lss rfl rfl) ?_
  refine JO.setv (u' := .bool false) 11 rfl (congrArg Value.bool (by simp)) ?_
  refine JO.nil ?_
  refine J.condF rfl rfl ?_
  refine J.skip rfl ?_
  refine J.seq rfl ?_
  refine J.quiet rfl Try.mixed (by kernel_rfl) ?_
  refine JQ.pur rfl rfl rfl (Pur.move rfl) ?_
  refine JQ.pur rfl rfl rfl (Pur.nilCheck rfl) ?_
  refine JQ.pur rfl rfl rfl (Pur.fieldAddr rfl) ?_
  refine JQ.pur rfl rfl rfl (Pur.load rfl (CellIn.blk rfl)) ?_
  refine JQ.pur rfl rfl rfl (Pur.move rfl) ?_
  refine JQ.pur rfl rfl rfl (Pur.idx rfl rfl rfl (by first | rfl | (simp; done) | omega) rfl (by omega)) ?_
  refine JQ.pur rfl rfl rfl (Pur.fieldAddr rfl) ?_
  refine JQ.pur rfl rfl rfl (Pur.load rfl (CellIn.el rfl hrc rfl)) ?_
  refine JQ.setv (u' := .int .i64 (ch F i).to) 19 rfl rfl ?_
  refine JQ.pur rfl rfl rfl (Pur.move rfl) ?_
  refine JQ.pur rfl rfl rfl (Pur.nilCheck rfl) ?_
  refine JQ.pur rfl rfl rfl (Pur.fieldAddr rfl) ?_
  refine JQ.pur rfl rfl rfl (Pur.load rfl (CellIn.blk rfl)) ?_
  refine JQ.pur rfl rfl rfl (Pur.move rfl) ?_
  refine JQ.pur rfl rfl rfl (Pur.idx rfl rfl rfl (by first | rfl | (simp; done) | omega) rfl (by omega)) ?_
  refine JQ.pur rfl rfl rfl (Pur.fieldAddr rfl) ?_
  refine JQ.pur rfl rfl rfl (Pur.load rfl (CellIn.el rfl hrc rfl)) ?_
  refine JQ.setv (u' := .int .i64 (ch F i).at') 27 rfl rfl ?_
  refine JQ.pur rfl rfl rfl (Pur.sub rfl rfl (wr64 (by omega))) ?_
  refine JQ.pur rfl rfl rfl (Pur.assign rfl) ?_
  refine JQ.pur rfl rfl rfl (Pur.assign rfl) ?_
  refine JQ.nil ?_
  refine J.ret rfl rfl ?_
  have hv : leftF F n = ((ch F i).to - (ch F i).at', 0) := by unfold leftF; rw [hx]
  refine ⟨_, _, ⟨rfl, rfl⟩, by rw [hv]; rfl, fun h s => ?_⟩
  exact RA_mk (ab := ab) (cb := cb) (ao := ao) (co := co) hr (SubC.out h s)

theorem rLeft_ok {L : List Asn} {p : Nat} {F : Fl} {n : Int} {k : Nat} (g : Hf.Good F k) (hk : k ≤ 100000) : CallS Try.prog 55 [.pointer (some ⟨p, 0, none⟩), .int .i64 n].toArray (RA p F :: L) (fun v M => v = .tuple #[.int .i64 (leftF F n).1, .int .i64 (leftF F n).2] ∧ M = RA p F :: L) := by
  cases hx : ix F n with
  | none => exact rLeft_no  g hk hx
  | some i => exact rLeft_yes  g hk hx
end Go.Proofs.Ytgbckamaenapeaa
