/-
  A part of the proof of the claim that this folder bears.
-/
import Derived.Test.YtnhippfllgnngaaPAM
import Derived.Test.YtnhippfllgnngaaPAE
import Derived.Test.YtnhippfllgnngaaPAN
/- The text SpPlain3. -/
set_option linter.unusedVariables false
set_option linter.unusedSimpArgs false
/-! Compressed by rows, plain. -/
namespace Go.Proofs.Ytnhippfllgnngaa
open Go Go.KK Dm
theorem setAt_set {v : Value} : ∀ {cs : List Value} {k : Nat}, k < cs.length → SetAt v cs k (cs.set k v)
  | c :: cs, 0, _ => .head
  | c :: cs, k + 1, h => .tail (setAt_set (Nat.lt_of_succ_lt_succ h))
  | [], k, h => absurd h (Nat.not_lt_zero k)
def oneR (rs : List Rg) (k : Nat) : List Rg := [rs.getD k default]
def twoL (rs : List Rg) (q : Nat) : List Value := [.int .i64 (if 0 < q then ctV (oneR rs 0) else 0), .int .i64 (if 1 < q then ctV (oneR rs 1) else 0)]
theorem twoL_succ {rs : List Rg} {k : Nat} (h : k < 2) : (twoL rs k).set k (.int .i64 (ctV (oneR rs k))) = twoL rs (k + 1) := by
  match k, h with
  | 0, _ => rfl
  | 1, _ => rfl
theorem drop_one {rs : List Rg} {k : Nat} (h : k < rs.length) : (rs.drop k).take 1 = oneR rs k := by
  rw [List.drop_eq_getElem_cons h]
  unfold oneR
  rw [List.getD_eq_getElem?_getD, List.getElem?_eq_getElem h]; rfl
/-- The row and the column of an index. -/
def memS (rs : List Rg) (dim : Nat) (z : Int) : Int := (plV (oneR rs dim) [z]).1
def incL (l : List Int) (i : Nat) : List Int := l.set (i + 1) (l.getD (i + 1) 0 + 1)
def rowN (d : List Rg) (x : List Int) : Nat := (memS d 0 (x.getD 0 0)).toNat
def cntL (d : List Rg) (n : Nat) (xss : List (List Int)) : List Int := xss.foldl (fun l x => incL l (rowN d x)) (List.replicate (n + 1) 0)
def colL (d : List Rg) (xss : List (List Int)) : List Int := xss.map fun x => memS d 1 (x.getD 1 0)
theorem cntL_snoc (d : List Rg) (n : Nat) (xss : List (List Int)) (x : List Int) : cntL d n (xss ++ [x]) = incL (cntL d n xss) (rowN d x) := by unfold cntL; rw [List.foldl_append]; rfl
theorem incL_len (l : List Int) (i : Nat) : (incL l i).length = l.length := by simp [incL]
theorem snoc_ind' {α : Type} {P : List α → Prop} (h0 : P []) (h1 : ∀ l z, P l → P (l ++ [z])) (l : List α) : P l := by
  have : ∀ m : List α, P m.reverse := by
    intro m
    induction m with
    | nil => exact h0
    | cons z m ih => rw [List.reverse_cons]; exact h1 _ _ ih
  have h := this l.reverse
  rwa [List.reverse_reverse] at h
theorem cntL_len (d : List Rg) (n : Nat) (xss : List (List Int)) : (cntL d n xss).length = n + 1 := by
  refine snoc_ind' (P := fun xss => (cntL d n xss).length = n + 1) (by simp [cntL]) (fun l z ih => ?_) xss
  rw [cntL_snoc, incL_len, ih]
theorem sum_set : ∀ {l : List Int} {k : Nat} {v : Int}, k < l.length → (l.set k v).sum = l.sum - l.getD k 0 + v
  | a :: l, 0, v, _ => by simp; omega
  | a :: l, k + 1, v, h => by
    have := sum_set (l := l) (k := k) (v := v) (Nat.lt_of_succ_lt_succ h)
    simp only [List.set_cons_succ, List.sum_cons, this, List.getD_cons_succ]; omega
  | [], k, v, h => absurd h (Nat.not_lt_zero k)
/-- Each count is none below zero, and together there are as many as indexes. -/
theorem cntL_bnd {d : List Rg} {n : Nat} (xss : List (List Int)) (h : ∀ x ∈ xss, rowN d x < n) : (∀ j, 0 ≤ (cntL d n xss).getD j 0) ∧ (cntL d n xss).sum = (xss.length : Int) := by
  revert h
  refine snoc_ind' (P := fun xss => (∀ x ∈ xss, rowN d x < n) → (∀ j, 0 ≤ (cntL d n xss).getD j 0) ∧ (cntL d n xss).sum = (xss.length : Int)) ?_ (fun l z ih h => ?_) xss
  · intro _
    refine ⟨fun j => ?_, by simp [cntL]⟩
    unfold cntL
    rw [List.foldl_nil, List.getD_eq_getElem?_getD, List.getElem?_replicate]; split <;> simp
  · obtain ⟨h1, h2⟩ := ih (fun x hx => h x (List.mem_append_left _ hx))
    have hz := h z (by simp)
    rw [cntL_snoc]
    have hl := cntL_len d n l
    unfold incL
    refine ⟨fun j => ?_, ?_⟩
    · rw [List.getD_eq_getElem?_getD, List.getElem?_set]
      split
      · rename_i e
        rw [if_pos (by omega)]
        have := h1 (rowN d z + 1)
        show 0 ≤ _ + 1; omega
      · rw [← List.getD_eq_getElem?_getD]; exact h1 j
    · rw [sum_set (by omega), h2, List.length_append, List.length_singleton]; omega
theorem sum_nonneg' : ∀ {l : List Int}, (∀ j, 0 ≤ l.getD j 0) → 0 ≤ l.sum
  | [], _ => by simp
  | a :: l, h => by
    have h1 := h 0
    have h2 := sum_nonneg' (l := l) (fun j => by have := h (j + 1); simpa using this)
    simp at h1
    rw [List.sum_cons]; omega
theorem getD_le_sum : ∀ {l : List Int} (j : Nat), (∀ j, 0 ≤ l.getD j 0) → l.getD j 0 ≤ l.sum
  | [], j, _ => by simp
  | a :: l, 0, h => by
    have h2 := sum_nonneg' (l := l) (fun j => by have := h (j + 1); simpa using this)
    simp; omega
  | a :: l, j + 1, h => by
    have h1 := h 0
    simp at h1
    have := getD_le_sum (l := l) j (fun j => by have := h (j + 1); simpa using this)
    simp only [List.getD_cons_succ, List.sum_cons]; omega
theorem take_sum_le {l : List Int} (k : Nat) (h : ∀ j, 0 ≤ l.getD j 0) : 0 ≤ (l.take k).sum ∧ (l.take k).sum ≤ l.sum := by
  have e : l.sum = (l.take k).sum + (l.drop k).sum := by conv => lhs; rw [← List.take_append_drop k l, List.sum_append]
  have h1 : 0 ≤ (l.take k).sum := sum_nonneg' fun j => by
    rw [List.getD_eq_getElem?_getD, List.getElem?_take]
    split
    · rw [← List.getD_eq_getElem?_getD]; exact h j
    · simp
  have h2 : 0 ≤ (l.drop k).sum := sum_nonneg' fun j => by
    rw [List.getD_eq_getElem?_getD, List.getElem?_drop, ← List.getD_eq_getElem?_getD]; exact h _
  omega
/-- The first ones summed up. -/
def preL (l : List Int) (q : Nat) : List Int := (List.range l.length).map fun j => if j ≤ q then (l.take (j + 1)).sum else l.getD j 0
theorem preL_len (l : List Int) (q : Nat) : (preL l q).length = l.length := by simp [preL]
theorem preL_get {l : List Int} {q j : Nat} (h : j < l.length) : (preL l q)[j]? = some (if j ≤ q then (l.take (j + 1)).sum else l.getD j 0) := by
  unfold preL; rw [List.getElem?_map, List.getElem?_range h]; rfl
theorem take_sum_succ {l : List Int} {j : Nat} (h : j < l.length) : (l.take (j + 1)).sum = (l.take j).sum + l.getD j 0 := by
  rw [take_get (getD_at' 0 h), List.sum_append]; simp
theorem preL_zero (l : List Int) : preL l 0 = l := by
  apply List.ext_getElem?
  intro j
  by_cases hj : j < l.length
  · rw [preL_get hj]
    by_cases e : j = 0
    · subst e
      rw [if_pos (Nat.le_refl _), take_sum_succ hj, getD_at' 0 hj]; simp
    · rw [if_neg (by omega), getD_at' 0 hj]
  · rw [List.getElem?_eq_none (by rw [preL_len]; omega), List.getElem?_eq_none (by omega)]
theorem preL_succ {l : List Int} {q : Nat} (h : q + 1 < l.length) : (preL l q).set (q + 1) (l.getD (q + 1) 0 + (l.take (q + 1)).sum) = preL l (q + 1) := by
  apply List.ext_getElem?
  intro j
  by_cases hj : j < l.length
  · rw [List.getElem?_set, preL_get hj, preL_get hj]
    by_cases e : q + 1 = j
    · subst e
      rw [if_pos rfl, if_pos (by rw [preL_len]; exact h), if_pos (Nat.le_refl _), take_sum_succ h]; congr 1; omega
    · rw [if_neg e]
      by_cases e2 : j ≤ q
      · rw [if_pos e2, if_pos (by omega)]
      · rw [if_neg e2, if_neg (by omega)]
  · rw [List.getElem?_eq_none (by rw [List.length_set, preL_len]; omega), List.getElem?_eq_none (by rw [preL_len]; omega)]
/-- What Rows gives. -/
def rowsV (rs : List Rg) (xss : List (List Int)) : List Int × List Int × Int := if ¬ okS rs xss then ([], [], 50) else if rs.length ≠ 2 then ([], [], 2) else
  (preL (cntL (canD rs) (ctV (oneR (canD rs) 0)).toNat xss) (ctV (oneR (canD rs) 0)).toNat, colL (canD rs) xss, 0)
/-- The parts of a valid domain's canonical form. -/
theorem one_ok {rs : List Rg} (h : okD rs) {k : Nat} (hk : k < rs.length) : okD (oneR (canD rs) k) ∧ ctV (oneR (canD rs) k) = (cnt ((canD rs).getD k default) : Int) ∧ cnt ((canD rs).getD k default) ≤ 4096 := by
  have h1 := canD_okD h
  have hm : (canD rs).getD k default ∈ canD rs := getD_mem (by rw [canD_len]; exact hk)
  have hc : cnt ((canD rs).getD k default) ≤ 4096 := by
    by_cases e : cntD rs = 0
    · have : (canD rs).getD k default = none3 := by
        unfold canD at hm ⊢
        rw [if_pos e] at hm ⊢
        obtain ⟨_, _, e2⟩ := List.mem_map.1 hm
        exact e2.symm
      rw [this, none3_cnt]; omega
    · have hne : rs ≠ [] := fun e2 => by rw [e2] at hk; simp at hk
      have h2 : cntD (canD rs) ≠ 0 := by rw [canD_cnt h.2.2.1 hne]; exact e
      have := Nat.le_of_dvd (by omega) (cnt_dvd hm)
      have := h1.2.2.2
      omega
  have hcd : cntD (oneR (canD rs) k) = cnt ((canD rs).getD k default) := by unfold oneR cntD; simp
  have ho : okD (oneR (canD rs) k) := by
    refine ⟨by simp [oneR], by simp [oneR], fun r hr => ?_, by rw [hcd]; exact hc⟩
    unfold oneR at hr
    rw [List.mem_singleton] at hr
    rw [hr]; exact h1.2.2.1 _ hm
  refine ⟨ho, ?_, hc⟩
  unfold ctV; rw [if_pos ho, hcd]
end Go.Proofs.Ytnhippfllgnngaa
namespace Go.Proofs.Ytnhippfllgnngaa
open Go Go.KK Dm
theorem plV_nonneg (rs : List Rg) (x : List Int) : 0 ≤ (plV rs x).1 := by
  unfold plV
  split
  · exact Int.le_refl _
  · split
    · exact Int.le_refl _
    · split
      · exact Int.natCast_nonneg _
      · exact Int.le_refl _
/-- An index's number in a dimension. -/
theorem mem_one {rs : List Rg} {x : List Int} (h : okD rs) (hx : (plD rs x).isSome = true) {k : Nat} (hk : k < rs.length) : ∃ i, plR ((canD rs).getD k default) (x.getD k 0) = some i ∧ memS (canD rs) k (x.getD k 0) = (i : Int) ∧ i < cnt ((canD rs).getD k default) := by
  have hne : rs ≠ [] := fun e => by rw [e] at hk; simp at hk
  have h1 := canD_okD h
  have hl : x.length = rs.length := by
    unfold plD at hx
    by_cases e : x.length = rs.length
    · exact e
    · rw [if_neg e] at hx; cases hx
  have hx2 : (plK (canD rs) x (canD rs).length).isSome = true := by
    have : (plD (canD rs) x).isSome = true := by
      cases e : plD rs x with
      | none => rw [e] at hx; cases hx
      | some n =>
        have e2 := (plD_iff h.2.2.1).1 e
        rw [← canD_idx h.2.2.1 hne] at e2
        rw [(plD_iff h1.2.2.1).2 e2]; rfl
    unfold plD at this
    rwa [if_pos (by rw [canD_len]; exact hl)] at this
  have h2 := plK_some.1 hx2 k (by rw [canD_len]; exact hk)
  obtain ⟨i, hi⟩ := Option.isSome_iff_exists.1 h2
  have hr : okR ((canD rs).getD k default) := h1.2.2.1 _ (getD_mem (by rw [canD_len]; exact hk))
  refine ⟨i, hi, ?_, plR_lt hr hi⟩
  obtain ⟨ho, _, _⟩ := one_ok h hk
  unfold memS plV
  rw [if_neg (not_not_intro ho), if_neg (not_not_intro (by rfl))]
  have : plD (oneR (canD rs) k) [x.getD k 0] = some i := by
    have hlt := plR_lt hr hi
    have he := ((plR_iff hr).1 hi).2
    refine (plD_iff ho.2.2.1).2 ?_
    show (addD [[]] _)[i]? = _
    rw [addD_get (by omega), Nat.div_eq_of_lt hlt, Nat.mod_eq_of_lt hlt]
    show some ([] ++ [atR _ (i : Int)]) = _
    rw [List.nil_append]
    exact congrArg (fun z => some [z]) he.symm
  rw [this]
end Go.Proofs.Ytnhippfllgnngaa

/- The text SH3. -/
set_option linter.unusedVariables false
set_option linter.unusedSimpArgs false
set_option maxRecDepth 10000
namespace Go.Proofs.Ytnhippfllgnngaa
open Go Go.KK Dm

theorem small_ok {L : List Asn} {a : Option Addr} {n cap : Nat} {rs : List Rg} [SlIn rgE L a rs] (hn : n = rs.length) :
    CallS Try.prog 91 [.agg #[.slice a n cap]].toArray L (fun v M => ∃ a' c', v = .agg #[.slice a' (cdV rs).length c'] ∧ M = sl rgE a' c' (cdV rs) :: L) := by
  subst hn
  refine CallS.ent ?_
  refine CallS.enter Try.func91 rfl rfl rfl rfl rfl ?_
  refine J.seq rfl ?_
  refine J.region rfl ?_
  refine JO.eff rfl rfl rfl (Eff.box (cs := [_]) rfl rfl) ?_
  rintro _ _ ⟨b1, rfl, rfl⟩
  refine JO.eff rfl rfl rfl (Eff.alloc (cs := [_]) rfl) ?_
  rintro _ _ ⟨b2, rfl, rfl⟩
  refine JO.nil ?_
  refine J.seq rfl ?_
  refine J.region rfl ?_
  refine JO.pur rfl rfl rfl (Pur.loadA rfl rfl rfl CellsIn.blk) ?_
  refine JO.eff rfl rfl rfl (Eff.call rfl (d_Canon (rs := rs) rfl)) ?_
  rintro _ _ ⟨a7, c7, rfl, rfl⟩
  refine JO.pur rfl rfl rfl (Pur.move rfl) ?_
  refine JO.pur rfl rfl rfl (Pur.extract rfl rfl) ?_
  refine JO.pur rfl rfl rfl (Pur.extract rfl rfl) ?_
  refine JO.eff rfl rfl rfl (Eff.alloc (cs := [_]) rfl) ?_
  rintro _ _ ⟨b3, rfl, rfl⟩
  refine JO.effN rfl rfl (Eff.storeBA (cs' := [_]) rfl rfl (by rfl) (by rfl) (by rfl)) ?_
  rintro _ _ ⟨rfl, rfl⟩
  refine JO.pur rfl rfl rfl (Pur.assign rfl) ?_
  refine JO.nil ?_
  refine J.seq rfl ?_
  refine J.region rfl ?_
  refine JO.pur rfl rfl rfl (Pur.loadA rfl rfl rfl CellsIn.blk) ?_
  refine JO.effN rfl rfl (Eff.storeBA (cs' := [_]) rfl rfl (by rfl) (by rfl) (by rfl)) ?_
  rintro _ _ ⟨rfl, rfl⟩
  refine JO.nil ?_
  refine J.retC rfl (.cell rfl (ld_agg rfl CellsIn.blk) .nil) ?_
  refine ⟨_, _, ⟨a7, c7, rfl, rfl⟩, rfl, SubC.out⟩

theorem sides_ok {L : List Asn} {a : Option Addr} {n cap : Nat} {rs : List Rg} [SlIn rgE L a rs] (hn : n = rs.length) (hcap : rs.length ≤ cap) (h2 : rs.length = 2) :
    CallS Try.prog 92 [.agg #[.slice a n cap]].toArray L (fun v M => v = .tuple #[.int .i64 (ctV (oneR rs 0)), .int .i64 (ctV (oneR rs 1))] ∧ M = L) := by
  subst hn
  refine CallS.ent ?_
  refine CallS.enter Try.func92 rfl rfl rfl rfl rfl ?_
  refine J.seq rfl ?_
  refine J.region rfl ?_
  refine JO.eff rfl rfl rfl (Eff.box (cs := [_]) rfl rfl) ?_
  rintro _ _ ⟨b1, rfl, rfl⟩
  refine JO.pur rfl rfl rfl (Pur.assign rfl) ?_
  refine JO.pur rfl rfl rfl (Pur.assign rfl) ?_
  refine JO.nil ?_
  refine J.seq rfl ?_
  refine J.region rfl ?_
  refine JO.pur rfl rfl rfl (Pur.build (cs := [_, _]) rfl rfl) ?_
  refine JO.eff rfl rfl rfl (Eff.alloc (cs := [_, _]) rfl) ?_
  rintro _ _ ⟨b4, rfl, rfl⟩
  refine JO.effN rfl rfl (Eff.storeBA (cs' := [_, _]) rfl rfl (by rfl) (by rfl) (by rfl)) ?_
  rintro _ _ ⟨rfl, rfl⟩
  refine JO.nil ?_
  refine J.seq rfl ?_
  refine J.seq rfl ?_
  refine J.region rfl ?_
  refine JO.pur rfl rfl rfl (Pur.move rfl) ?_
  refine JO.nil ?_
  refine J.block rfl ?_
  refine J.loopF (ι := Nat) (fun q => q ≤ 2) (fun q => [(7, .int .i64 (q : Int))]) [(1, _), (4, _)] (fun q => blk b4 (.cells (twoL rs q).toArray 61) :: blk b1 (.cells #[.slice a rs.length cap] 24) :: L) (fun q => 2 - q) 0 rfl (.cons rfl rfl (.cons rfl rfl .nil)) (.cons rfl rfl .nil) (by first | exact fun _ h => h | exact SubC.out | (dsimp only; exact SubC.out)) (Nat.zero_le _) ?_
  rintro k hk ihk
  try dsimp only
  refine J.seq rfl ?_
  refine J.region rfl ?_
  refine JO.pur rfl rfl rfl (Pur.lss rfl rfl) ?_
  refine JO.nil ?_
  refine J.seq rfl ?_
  refine J.splitB 8 rfl (fun h8 => ?_) (fun h8 => ?_)
  · try simp only [decide_eq_true_eq, decide_eq_false_iff_not, Bool.not_eq_true', Bool.not_eq_false', Bool.and_eq_true, Bool.or_eq_true, Bool.and_eq_false_iff, Bool.or_eq_false_iff, Option.isNone_some, Option.isSome_some, Option.isNone_none, Option.isSome_none, Int.not_lt, Int.not_le, beq_iff_eq, beq_eq_false_iff_ne, bne_iff_ne, ne_eq, Bool.not_not, Decidable.not_not] at h8
    have hkl : k < 2 := by omega
    refine J.condT rfl rfl ?_
    refine J.skip rfl ?_
    refine J.seq rfl ?_
    refine J.block rfl ?_
    refine J.seq rfl ?_
    refine J.region rfl ?_
    refine JO.pur rfl rfl rfl (Pur.move rfl) ?_
    refine JO.pur rfl rfl rfl (Pur.assign rfl) ?_
    refine JO.nil ?_
    refine J.region rfl ?_
    refine JO.pur rfl rfl rfl (Pur.move rfl) ?_
    refine JO.pur rfl rfl rfl (Pur.fieldAddr rfl) ?_
    refine JO.pur rfl rfl rfl (Pur.load rfl (CellIn.blk rfl)) ?_
    refine JO.pur rfl rfl rfl (Pur.move rfl) ?_
    refine JO.pur rfl rfl rfl (Pur.move rfl) ?_
    refine JO.pur rfl rfl rfl (Pur.add rfl rfl (wr64 (by omega))) ?_
    refine JO.pur rfl rfl rfl (Pur.slice2 rfl rfl rfl rfl (show (k : Int) + 1 = ((k + 1 : Nat) : Int) from rfl) (by omega) (by omega)) ?_
    refine JO.pur rfl rfl rfl (Pur.build (cs := [_]) rfl rfl) ?_
    refine JO.effR rfl rfl rfl (Eff.call rfl (@d_Count _ _ _ _ (oneR rs k) (by rw [← drop_one (rs := rs) (k := k) (by omega)]; exact SlIn.takeN (SlIn.dropN (E := rgE) (cap := cap) inferInstance rfl k (fun e => by omega)) 1) (show k + 1 - k = 1 by omega))) ?_
    refine JO.pur rfl rfl rfl (Pur.move rfl) ?_
    refine JO.pur rfl rfl rfl (Pur.extract rfl rfl) ?_
    refine JO.setv (u' := .int .i64 (ctV (oneR rs k))) 20 rfl rfl ?_
    refine JO.pur rfl rfl rfl (Pur.extract rfl rfl) ?_
    refine JO.pur rfl rfl rfl (Pur.idxA rfl rfl rfl (by omega)) ?_
    refine JO.effN rfl rfl (Eff.storeB rfl rfl rfl (by rw [show 0 + k * 1 = k by omega]; exact setAt_set (by show k < 2; omega))) ?_
    rintro _ _ ⟨rfl, rfl⟩
    refine JO.nil ?_
    refine J.inBlock ?_
    refine J.region rfl ?_
    refine JO.pur rfl rfl rfl (Pur.add rfl rfl (wr64 (by omega))) ?_
    refine JO.pur rfl rfl rfl (Pur.move rfl) ?_
    refine JO.nil ?_
    exact J.weaken (.cons rfl (congrArg (Value.int .i64) (by first | rfl | (dsimp only; omega))) (.cons rfl rfl (.cons rfl rfl .nil))) (fun h s => by rw [← twoL_succ (rs := rs) (by omega : k < 2)]; exact SubC.out h s) (ihk (k + 1) (by omega) (by omega))
  · try simp only [decide_eq_true_eq, decide_eq_false_iff_not, Bool.not_eq_true', Bool.not_eq_false', Bool.and_eq_true, Bool.or_eq_true, Bool.and_eq_false_iff, Bool.or_eq_false_iff, Option.isNone_some, Option.isSome_some, Option.isNone_none, Option.isSome_none, Int.not_lt, Int.not_le, beq_iff_eq, beq_eq_false_iff_ne, bne_iff_ne, ne_eq, Bool.not_not, Decidable.not_not] at h8
    have hke : k = 2 := by omega
    subst hke
    refine J.condF rfl rfl ?_
    refine J.exit rfl rfl ?_
    refine J.seq rfl ?_
    refine J.quiet rfl Try.mixed (by kernel_rfl) ?_
    refine JQ.pur rfl rfl rfl (Pur.idxA (k := 0) rfl rfl rfl (by decide)) ?_
    refine JQ.pur rfl rfl rfl (Pur.load rfl (CellIn.blk rfl)) ?_
    refine JQ.setv (u' := .int .i64 (ctV (oneR rs 0))) 25 rfl rfl ?_
    refine JQ.pur rfl rfl rfl (Pur.idxA (k := 1) rfl rfl rfl (by decide)) ?_
    refine JQ.pur rfl rfl rfl (Pur.load rfl (CellIn.blk rfl)) ?_
    refine JQ.setv (u' := .int .i64 (ctV (oneR rs 1))) 27 rfl rfl ?_
    refine JQ.pur rfl rfl rfl (Pur.assign rfl) ?_
    refine JQ.pur rfl rfl rfl (Pur.assign rfl) ?_
    refine JQ.nil ?_
    refine J.ret rfl rfl ?_
    refine ⟨_, _, ⟨rfl, rfl⟩, rfl, SubC.out⟩

theorem member_ok {L : List Asn} {a : Option Addr} {n cap : Nat} {rs : List Rg} {k : Nat} {z : Int} [SlIn rgE L a rs] (hn : n = rs.length) (hcap : rs.length ≤ cap) (hk : k < rs.length) (hb : rs.length ≤ 1000) :
    CallS Try.prog 105 [.agg #[.slice a n cap], .int .i64 (k : Int), .int .i64 z].toArray L (fun v M => v = .int .i64 (memS rs k z) ∧ M = L) := by
  subst hn
  refine CallS.ent ?_
  refine CallS.enter Try.func105 rfl rfl rfl rfl rfl ?_
  refine J.seq rfl ?_
  refine J.region rfl ?_
  refine JO.eff rfl rfl rfl (Eff.box (cs := [_]) rfl rfl) ?_
  rintro _ _ ⟨b3, rfl, rfl⟩
  refine JO.pur rfl rfl rfl (Pur.assign rfl) ?_
  refine JO.nil ?_
  refine J.seq rfl ?_
  refine J.region rfl ?_
  refine JO.pur rfl rfl rfl (Pur.fieldAddr rfl) ?_
  refine JO.pur rfl rfl rfl (Pur.load rfl (CellIn.blk rfl)) ?_
  refine JO.pur rfl rfl rfl (Pur.move rfl) ?_
  refine JO.pur rfl rfl rfl (Pur.move rfl) ?_
  refine JO.pur rfl rfl rfl (Pur.add rfl rfl (wr64 (by omega))) ?_
  refine JO.pur rfl rfl rfl (Pur.slice2 rfl rfl rfl rfl (show (k : Int) + 1 = ((k + 1 : Nat) : Int) from rfl) (by omega) (by omega)) ?_
  refine JO.pur rfl rfl rfl (Pur.build (cs := [_]) rfl rfl) ?_
  refine JO.pur rfl rfl rfl (Pur.move rfl) ?_
  refine JO.eff rfl rfl rfl (Eff.buildSlice intE [z] rfl rfl rfl rfl rfl rfl rfl) ?_
  rintro _ _ ⟨b18, rfl, -, rfl⟩
  refine JO.effR rfl rfl rfl (Eff.call rfl (@d_Place _ _ _ _ _ _ _ (oneR rs k) [z] (by rw [← drop_one (rs := rs) (k := k) (by omega)]; exact SlIn.takeN (SlIn.dropN (E := rgE) (cap := cap) inferInstance rfl k (fun e => by omega)) 1) inferInstance (show k + 1 - k = 1 by omega) rfl)) ?_
  refine JO.pur rfl rfl rfl (Pur.move rfl) ?_
  refine JO.pur rfl rfl rfl (Pur.extract rfl rfl) ?_
  refine JO.pur rfl rfl rfl (Pur.extract rfl rfl) ?_
  refine JO.pur rfl rfl rfl (Pur.assign rfl) ?_
  refine JO.pur rfl rfl rfl (Pur.assign rfl) ?_
  refine JO.nil ?_
  refine J.seq rfl ?_
  refine J.region rfl ?_
  refine JO.pur rfl rfl rfl (Pur.move rfl) ?_
  refine JO.pur rfl rfl rfl (Pur.assign rfl) ?_
  refine JO.nil ?_
  refine J.ret rfl rfl ?_
  refine ⟨_, _, ⟨rfl, rfl⟩, rfl, SubC.out⟩

end Go.Proofs.Ytnhippfllgnngaa

/- The text SH4. -/
set_option linter.unusedVariables false
set_option linter.unusedSimpArgs false
set_option maxRecDepth 10000
namespace Go.Proofs.Ytnhippfllgnngaa
open Go Go.KK Dm

theorem s_Rows {L : List Asn} {a la : Option Addr} {n cap ln lc : Nat} {rs : List Rg} {hs : List Hdr} {xss : List (List Int)} [SlIn rgE L a rs] [SlIn hE L la hs] [RowsR intE L hs xss] (hn : n = rs.length) (hl : ln = hs.length) :
    CallS Try.prog 38 [.agg #[.slice a n cap, .slice la ln lc]].toArray L (fun v M => ∃ a' c' a'' c'', v = .tuple #[.slice a' (rowsV rs xss).1.length c', .slice a'' (rowsV rs xss).2.1.length c'', .int .i64 (rowsV rs xss).2.2] ∧ M = sl intE a' c' (rowsV rs xss).1 :: sl intE a'' c'' (rowsV rs xss).2.1 :: L) := by
  subst hn
  subst hl
  refine CallS.fact (fun h s => RowsR.len (E := intE) (hs := hs) (xss := xss) s) fun hnn => ?_
  have hhl : hs.length = xss.length := rows_len hnn
  refine CallS.ent ?_
  refine CallS.enter Try.func38 rfl rfl rfl rfl rfl ?_
  refine J.seq rfl ?_
  refine J.region rfl ?_
  refine JO.eff rfl rfl rfl (Eff.box (cs := [_, _]) rfl rfl) ?_
  rintro _ _ ⟨b1, rfl, rfl⟩
  refine JO.pur rfl rfl rfl (Pur.assign rfl) ?_
  refine JO.pur rfl rfl rfl (Pur.assign rfl) ?_
  refine JO.pur rfl rfl rfl (Pur.assign rfl) ?_
  refine JO.nil ?_
  refine J.seq rfl ?_
  refine J.block rfl ?_
  refine J.seq rfl ?_
  refine J.region rfl ?_
  refine JO.pur rfl rfl rfl (Pur.loadA rfl rfl rfl CellsIn.blk) ?_
  refine JO.effR rfl rfl rfl (Eff.call rfl (s_Valid (rs := rs) (hs := hs) (xss := xss) rfl rfl)) ?_
  refine JO.pur rfl rfl rfl (Pur.not rfl) ?_
  refine JO.pur rfl rfl rfl (Pur.assign rfl) ?_
  refine JO.nil ?_
  refine J.splitB 11 rfl (fun h11 => ?_) (fun h11 => ?_)
  · try simp only [decide_eq_true_eq, decide_eq_false_iff_not, Bool.not_eq_true', Bool.not_eq_false', Bool.and_eq_true, Bool.or_eq_true, Bool.and_eq_false_iff, Bool.or_eq_false_iff, Option.isNone_some, Option.isSome_some, Option.isNone_none, Option.isSome_none, Int.not_lt, Int.not_le, beq_iff_eq, beq_eq_false_iff_ne, bne_iff_ne, ne_eq, Bool.not_not, Decidable.not_not] at h11
    have hns : ¬ okS rs xss := h11
    refine J.condT rfl rfl ?_
    refine J.seq rfl ?_
    refine J.region rfl ?_
    refine JO.pur rfl rfl rfl (Pur.assign rfl) ?_
    refine JO.pur rfl rfl rfl (Pur.assign rfl) ?_
    refine JO.pur rfl rfl rfl (Pur.assign rfl) ?_
    refine JO.nil ?_
    refine J.ret rfl rfl ?_
    have hv : rowsV rs xss = ([], [], 50) := by unfold rowsV; rw [if_pos hns]
    refine ⟨_, _, ⟨none, 0, none, 0, rfl, rfl⟩, by rw [hv]; rfl, fun h s => ?_⟩
    rw [hv]; exact sl_nil_new (sl_nil_new (SubC.out h s))
  · try simp only [decide_eq_true_eq, decide_eq_false_iff_not, Bool.not_eq_true', Bool.not_eq_false', Bool.and_eq_true, Bool.or_eq_true, Bool.and_eq_false_iff, Bool.or_eq_false_iff, Option.isNone_some, Option.isSome_some, Option.isNone_none, Option.isSome_none, Int.not_lt, Int.not_le, beq_iff_eq, beq_eq_false_iff_ne, bne_iff_ne, ne_eq, Bool.not_not, Decidable.not_not] at h11
    have hs0 : okS rs xss := h11
    refine J.condF rfl rfl ?_
    refine J.seq rfl ?_
    refine J.region rfl ?_
    refine JO.pur rfl rfl rfl (Pur.fieldAddr rfl) ?_
    refine JO.pur rfl rfl rfl (Pur.fieldAddr rfl) ?_
    refine JO.pur rfl rfl rfl (Pur.load rfl (CellIn.blk rfl)) ?_
    refine JO.pur rfl rfl rfl (Pur.len rfl) ?_
    refine JO.pur rfl rfl rfl (Pur.neqI rfl rfl) ?_
    refine JO.pur rfl rfl rfl (Pur.assign rfl) ?_
    refine JO.nil ?_
    refine J.splitB 15 rfl (fun h15 => ?_) (fun h15 => ?_)
    · try simp only [decide_eq_true_eq, decide_eq_false_iff_not, Bool.not_eq_true', Bool.not_eq_false', Bool.and_eq_true, Bool.or_eq_true, Bool.and_eq_false_iff, Bool.or_eq_false_iff, Option.isNone_some, Option.isSome_some, Option.isNone_none, Option.isSome_none, Int.not_lt, Int.not_le, beq_iff_eq, beq_eq_false_iff_ne, bne_iff_ne, ne_eq, Bool.not_not, Decidable.not_not] at h15
      have hl2 : rs.length ≠ 2 := by omega
      refine J.condT rfl rfl ?_
      refine J.seq rfl ?_
      refine J.region rfl ?_
      refine JO.pur rfl rfl rfl (Pur.assign rfl) ?_
      refine JO.pur rfl rfl rfl (Pur.assign rfl) ?_
      refine JO.pur rfl rfl rfl (Pur.assign rfl) ?_
      refine JO.nil ?_
      refine J.ret rfl rfl ?_
      have hv : rowsV rs xss = ([], [], 2) := by unfold rowsV; rw [if_neg (not_not_intro hs0), if_pos hl2]
      refine ⟨_, _, ⟨none, 0, none, 0, rfl, rfl⟩, by rw [hv]; rfl, fun h s => ?_⟩
      rw [hv]; exact sl_nil_new (sl_nil_new (SubC.out h s))
    · try simp only [decide_eq_true_eq, decide_eq_false_iff_not, Bool.not_eq_true', Bool.not_eq_false', Bool.and_eq_true, Bool.or_eq_true, Bool.and_eq_false_iff, Bool.or_eq_false_iff, Option.isNone_some, Option.isSome_some, Option.isNone_none, Option.isSome_none, Int.not_lt, Int.not_le, beq_iff_eq, beq_eq_false_iff_ne, bne_iff_ne, ne_eq, Bool.not_not, Decidable.not_not] at h15
      have hl2 : rs.length = 2 := by omega
      have hcd : cdV rs = canD rs := if_pos hs0.1
      have hcl := canD_len rs
      obtain ⟨ho0, hc0, hb0⟩ := one_ok hs0.1 (k := 0) (by omega)
      obtain ⟨R, hR⟩ : ∃ R, R = cnt ((canD rs).getD 0 default) := ⟨_, rfl⟩
      rw [← hR] at hc0 hb0
      have hxl4 := hs0.2.1
      have hrow : ∀ x ∈ xss, memS (canD rs) 0 (x.getD 0 0) = ((rowN (canD rs) x : Nat) : Int) ∧ rowN (canD rs) x < R := fun x hx => by
        obtain ⟨i, h1, h2, h3⟩ := mem_one hs0.1 (okS_some hs0 hx) (k := 0) (by omega)
        have e : rowN (canD rs) x = i := by unfold rowN; rw [h2]; rfl
        rw [e, hR]; exact ⟨h2, h3⟩
      refine J.condF rfl rfl ?_
      refine J.skip rfl ?_
      refine J.inBlock ?_
      refine J.seq rfl ?_
      refine J.region rfl ?_
      refine JO.pur rfl rfl rfl (Pur.fieldAddr rfl) ?_
      refine JO.pur rfl rfl rfl (Pur.loadA rfl rfl rfl (CellsIn.sub1 rfl)) ?_
      refine JO.eff rfl rfl rfl (Eff.call rfl (small_ok (rs := rs) rfl)) ?_
      rintro _ _ ⟨a23, c23, rfl, rfl⟩
      rw [hcd]
      refine JO.fact (fun h s => SlH.le (E := rgE) (a := a23) (cap := c23) (xs := canD rs) s) fun hcap => ?_
      refine JO.eff rfl rfl rfl (Eff.alloc (cs := [_]) rfl) ?_
      rintro _ _ ⟨b5, rfl, rfl⟩
      refine JO.effN rfl rfl (Eff.storeBA (cs' := [_]) rfl rfl (by rfl) (by rfl) (by rfl)) ?_
      rintro _ _ ⟨rfl, rfl⟩
      refine JO.nil ?_
      refine J.seq rfl ?_
      refine J.region rfl ?_
      refine JO.pur rfl rfl rfl (Pur.loadA rfl rfl rfl CellsIn.blk) ?_
      refine JO.effR rfl rfl rfl (Eff.call rfl (sides_ok (rs := canD rs) rfl hcap (by omega))) ?_
      refine JO.pur rfl rfl rfl (Pur.move rfl) ?_
      refine JO.pur rfl rfl rfl (Pur.extract rfl rfl) ?_
      refine JO.setv (u' := .int .i64 (R : Int)) 27 rfl (congrArg (Value.int .i64) hc0) ?_
      refine JO.pur rfl rfl rfl (Pur.extract rfl rfl) ?_
      refine JO.pur rfl rfl rfl (Pur.assign rfl) ?_
      refine JO.pur rfl rfl rfl (Pur.assign rfl) ?_
      refine JO.nil ?_
      refine J.seq rfl ?_
      refine J.region rfl ?_
      refine JO.pur rfl rfl rfl (Pur.move rfl) ?_
      refine JO.pur rfl rfl rfl (Pur.add rfl rfl (wr64 (by omega))) ?_
      refine JO.setv (u' := .int .i64 ((R + 1 : Nat) : Int)) 30 rfl rfl ?_
      refine JO.eff rfl rfl rfl (Eff.make intE 0 rfl rfl rfl rfl rfl (by decide) (by omega) (by omega)) ?_
      rintro _ _ ⟨b31, rfl, rfl⟩
      refine JO.pur rfl rfl rfl (Pur.assign rfl) ?_
      refine JO.nil ?_
      refine J.seq rfl ?_
      refine J.seq rfl ?_
      refine J.region rfl ?_
      refine JO.pur rfl rfl rfl (Pur.fieldAddr rfl) ?_
      refine JO.pur rfl rfl rfl (Pur.load rfl (CellIn.blk rfl)) ?_
      refine JO.pur rfl rfl rfl (Pur.len rfl) ?_
      refine JO.pur rfl rfl rfl (Pur.move rfl) ?_
      refine JO.nil ?_
      refine J.block rfl ?_
      refine J.loopF (ι := Nat × Option Addr × Nat) (fun q => q.1 ≤ xss.length) (fun q => [(3, .slice q.2.1 q.1 q.2.2), (35, .int .i64 (q.1 : Int))]) [(2, _), (5, _), (6, _), (33, _), (34, _)] (fun q => sl intE (some ⟨b31, 0, none⟩) (R + 1) (cntL (canD rs) R (xss.take q.1)) :: sl intE q.2.1 q.2.2 ((colL (canD rs) xss).take q.1) :: blk b5 (.cells #[.slice a23 (canD rs).length c23] 24) :: sl rgE a23 c23 (canD rs) :: blk b1 (.cells #[.slice a rs.length cap, .slice la hs.length lc] 27) :: L) (fun q => xss.length - q.1) (0, none, 0) rfl (.cons rfl rfl (.cons rfl rfl (.cons rfl rfl (.cons rfl rfl (.cons rfl rfl .nil))))) (.cons rfl rfl (.cons rfl rfl .nil)) (fun h s => by have s2 := sl_nil_new (E := intE) s; exact SubC.out (L := sl intE none 0 [] :: _) (M := sl intE _ _ (List.replicate (R + 1) 0) :: sl intE none 0 [] :: _) h s2) (Nat.zero_le _) ?_
      rintro ⟨k, a0, c0⟩ hk ih0
      try dsimp only
      dsimp only at hk
      have hco : (colL (canD rs) xss).length = xss.length := by simp [colL]
      have htl : ((colL (canD rs) xss).take k).length = k := by rw [List.length_take]; omega
      refine J.seq rfl ?_
      refine J.region rfl ?_
      refine JO.pur rfl rfl rfl (Pur.lss rfl rfl) ?_
      refine JO.nil ?_
      refine J.seq rfl ?_
      refine J.splitB 36 rfl (fun h36 => ?_) (fun h36 => ?_)
      · try simp only [decide_eq_true_eq, decide_eq_false_iff_not, Bool.not_eq_true', Bool.not_eq_false', Bool.and_eq_true, Bool.or_eq_true, Bool.and_eq_false_iff, Bool.or_eq_false_iff, Option.isNone_some, Option.isSome_some, Option.isNone_none, Option.isSome_none, Int.not_lt, Int.not_le, beq_iff_eq, beq_eq_false_iff_ne, bne_iff_ne, ne_eq, Bool.not_not, Decidable.not_not] at h36
        have hkl : k < xss.length := by omega
        obtain ⟨x, hX⟩ : ∃ x, xss[k]? = some x := ⟨_, List.getElem?_eq_getElem (by omega)⟩
        obtain ⟨hd, hH⟩ : ∃ hd, hs[k]? = some hd := ⟨_, List.getElem?_eq_getElem (by omega)⟩
        have hdn := hdr_n hnn hH hX
        have hxm := List.mem_of_getElem? hX
        have hxg : xss.getD k [] = x := getD_of' hX
        obtain ⟨hm0, hlt0⟩ := hrow x hxm
        have hx2 : x.length = 2 := by rw [okS_len hs0 hxm]; exact hl2
        have htk : xss.take (k + 1) = xss.take k ++ [x] := take_get hX
        have hst : (cntL (canD rs) R (xss.take (k + 1))) = incL (cntL (canD rs) R (xss.take k)) (rowN (canD rs) x) := by rw [htk, cntL_snoc]
        have hap1 : (colL (canD rs) xss).take (k + 1) = (colL (canD rs) xss).take k ++ [memS (canD rs) 1 (x.getD 1 0)] := take_get (by unfold colL; rw [List.getElem?_map, hX]; rfl)
        have hcnl := cntL_len (canD rs) R (xss.take k)
        obtain ⟨hp0, hps⟩ := cntL_bnd (d := (canD rs)) (n := R) (xss.take k) (fun y hy => (hrow y (List.mem_of_mem_take hy)).2)
        have hpe := getD_le_sum (rowN (canD rs) x + 1) hp0
        rw [hps, List.length_take] at hpe
        have hpe0 := hp0 (rowN (canD rs) x + 1)
        refine J.condT rfl rfl ?_
        refine J.skip rfl ?_
        refine J.seq rfl ?_
        refine J.block rfl ?_
        refine J.seq rfl ?_
        refine J.region rfl ?_
        refine JO.pur rfl rfl rfl (Pur.idx rfl rfl rfl (by first | rfl | (simp; done) | omega) rfl (by omega)) ?_
        refine JO.pur rfl rfl rfl (Pur.load rfl (CellIn.el0 rfl hH rfl)) ?_
        refine JO.setv (u' := .slice hd.a hd.n hd.cap) 38 rfl rfl ?_
        refine JO.pur rfl rfl rfl (Pur.assign rfl) ?_
        refine JO.nil ?_
        refine J.seq rfl ?_
        refine J.mask0 (n := 12) [11] rfl Try.mixed rfl (by kernel_rfl) ?_
        refine JM.take 0 (fun _ h => h) rfl (by kernel_rfl) rfl rfl rfl (m' := 1) rfl (Pur.move rfl) ?_
        refine JM.take 1 (fun _ h => h) rfl (by kernel_rfl) rfl rfl rfl (m' := 3) rfl (Pur.loadA rfl rfl rfl CellsIn.blk) ?_
        refine JM.take 2 (fun _ h => h) rfl (by kernel_rfl) rfl rfl rfl (m' := 7) rfl (Pur.move rfl) ?_
        refine JM.take 3 (fun _ h => h) rfl (by kernel_rfl) rfl rfl rfl (m' := 15) rfl (Pur.idx (hs := (RowsR.row (E := intE) inferInstance hH hX)) rfl rfl rfl (by first | rfl | (simp; done) | omega) (show (0 : Int) = ((0 : Nat) : Int) from rfl) (by omega)) ?_
        refine JM.take 4 (fun _ h => h) rfl (by kernel_rfl) rfl rfl rfl (m' := 31) rfl (Pur.load rfl (CellIn.el0 (hh := (RowsR.row (E := intE) inferInstance hH hX)) rfl (getD_at' 0 (by omega)) rfl)) ?_
        refine JM.setv (u' := .int .i64 (x.getD 0 0)) 43 rfl rfl ?_
        refine JM.one (i := 5) (by kernel_rfl) ?_
        refine JMi.effR (fun _ h => h) rfl rfl rfl rfl (m' := 63) rfl (Eff.call rfl (member_ok (rs := canD rs) (k := 0) (z := (x.getD 0 0)) rfl hcap (by omega) (by omega))) ?_
        refine JM.setv (u' := .int .i64 ((rowN (canD rs) x : Nat) : Int)) 44 rfl (congrArg (Value.int .i64) hm0) ?_
        refine JM.take 6 (fun _ h => h) rfl (by kernel_rfl) rfl rfl rfl (m' := 127) rfl (Pur.add rfl rfl (wr64 (by omega))) ?_
        refine JM.take 7 (fun _ h => h) rfl (by kernel_rfl) rfl rfl rfl (m' := 255) rfl (Pur.idx rfl rfl rfl (by first | rfl | (simp; done) | omega) (show (rowN (canD rs) x : Int) + 1 = ((rowN (canD rs) x + 1 : Nat) : Int) from rfl) (by omega)) ?_
        refine JM.take 8 (fun _ h => h) rfl (by kernel_rfl) rfl rfl rfl (m' := 511) rfl (Pur.load rfl (CellIn.el0 rfl (getD_at' 0 (by omega)) rfl)) ?_
        refine JM.setv (u' := .int .i64 ((cntL (canD rs) R (xss.take k)).getD (rowN (canD rs) x + 1) 0)) 47 rfl rfl ?_
        refine JM.take 9 (fun _ h => h) rfl (by kernel_rfl) rfl rfl rfl (m' := 1023) rfl (Pur.add rfl rfl (wr64 (by omega))) ?_
        refine JM.take 10 (fun _ h => h) rfl (by kernel_rfl) rfl rfl rfl (m' := 2047) rfl (Pur.idx rfl rfl rfl (by first | rfl | (simp; done) | omega) (show (rowN (canD rs) x : Int) + 1 = ((rowN (canD rs) x + 1 : Nat) : Int) from rfl) (by omega)) ?_
        refine JM.one (i := 11) (by kernel_rfl) ?_
        refine JMi.effN rfl rfl rfl (m' := 4095) rfl (Eff.storeS0 (z' := ((cntL (canD rs) R (xss.take k)).getD (rowN (canD rs) x + 1) 0 + 1)) rfl rfl rfl rfl (List.getElem?_eq_getElem (by omega)) .head) ?_
        rintro _ _ ⟨rfl, rfl⟩
        refine ⟨.inl (by simp), ?_⟩
        refine JM.done rfl ?_
        refine J.mask0 (n := 9) [7] rfl Try.mixed rfl (by kernel_rfl) ?_
        refine JM.take 0 (fun _ h => h) rfl (by kernel_rfl) rfl rfl rfl (m' := 1) rfl (Pur.move rfl) ?_
        refine JM.take 1 (fun _ h => h) rfl (by kernel_rfl) rfl rfl rfl (m' := 3) rfl (Pur.loadA rfl rfl rfl CellsIn.blk) ?_
        refine JM.take 2 (fun _ h => h) rfl (by kernel_rfl) rfl rfl rfl (m' := 7) rfl (Pur.move rfl) ?_
        refine JM.take 3 (fun _ h => h) rfl (by kernel_rfl) rfl rfl rfl (m' := 15) rfl (Pur.idx (hs := (RowsR.row (E := intE) inferInstance hH hX)) rfl rfl rfl (by first | rfl | (simp; done) | omega) (show (1 : Int) = ((1 : Nat) : Int) from rfl) (by omega)) ?_
        refine JM.take 4 (fun _ h => h) rfl (by kernel_rfl) rfl rfl rfl (m' := 31) rfl (Pur.load rfl (CellIn.el0 (hh := (RowsR.row (E := intE) inferInstance hH hX)) rfl (getD_at' 0 (by omega)) rfl)) ?_
        refine JM.setv (u' := .int .i64 (x.getD 1 0)) 54 rfl rfl ?_
        refine JM.one (i := 5) (by kernel_rfl) ?_
        refine JMi.effR (fun _ h => h) rfl rfl rfl rfl (m' := 63) rfl (Eff.call rfl (member_ok (rs := canD rs) (k := 1) (z := (x.getD 1 0)) rfl hcap (by omega) (by omega))) ?_
        refine JM.one (i := 6) (by kernel_rfl) ?_
        refine JMi.eff rfl rfl rfl rfl (m' := 127) rfl (Eff.buildSlice intE [memS (canD rs) 1 (x.getD 1 0)] rfl rfl rfl rfl rfl rfl rfl) ?_
        rintro _ _ ⟨b56, rfl, -, rfl⟩
        refine ⟨.inr (fun _ h => h.tail), ?_⟩
        refine JM.one (i := 7) (by kernel_rfl) ?_
        refine JMi.eff rfl rfl rfl rfl (m' := 255) rfl (Eff.append rfl rfl rfl rfl (by first | rfl | omega | (simp; done) | (simp; omega)) (by first | rfl | omega | (simp; done) | (simp; omega)) (by decide) (by simp; omega) (by simp; omega) (fun h => by cases h)) ?_
        rintro _ _ ⟨a57, c57, rfl, rfl⟩
        refine ⟨.inl (by simp), ?_⟩
        refine JM.takeF 8 (.inl (by kernel_rfl)) rfl (by kernel_rfl) rfl rfl rfl (m' := 511) rfl (Pur.assign rfl) ?_
        refine JM.done rfl ?_
        refine J.inBlock ?_
        refine J.region rfl ?_
        refine JO.pur rfl rfl rfl (Pur.add rfl rfl (wr64 (by omega))) ?_
        refine JO.pur rfl rfl rfl (Pur.move rfl) ?_
        refine JO.nil ?_
        exact J.weaken (.cons rfl (by show Value.slice a57 _ c57 = Value.slice a57 (k + 1) c57; rw [htl]; rfl) (.cons rfl (congrArg (Value.int .i64) (by first | rfl | (dsimp only; omega))) (.cons rfl rfl (.cons rfl rfl (.cons rfl rfl (.cons rfl rfl (.cons rfl rfl .nil))))))) (fun h s => by dsimp only; rw [hst, hap1]; unfold incL; exact SubC.out h s) (ih0 (k + 1, a57, c57) (by dsimp only; omega) (by dsimp only; omega))
      · try simp only [decide_eq_true_eq, decide_eq_false_iff_not, Bool.not_eq_true', Bool.not_eq_false', Bool.and_eq_true, Bool.or_eq_true, Bool.and_eq_false_iff, Bool.or_eq_false_iff, Option.isNone_some, Option.isSome_some, Option.isNone_none, Option.isSome_none, Int.not_lt, Int.not_le, beq_iff_eq, beq_eq_false_iff_ne, bne_iff_ne, ne_eq, Bool.not_not, Decidable.not_not] at h36
        have hke : k = xss.length := by omega
        subst hke
        rw [List.take_length, show (colL (canD rs) xss).take xss.length = (colL (canD rs) xss) from List.take_of_length_le (by simp [colL])]
        obtain ⟨hp0, hps⟩ := cntL_bnd (d := (canD rs)) (n := R) xss (fun y hy => (hrow y hy).2)
        have hcnl := cntL_len (canD rs) R xss
        refine J.condF rfl rfl ?_
        refine J.exit rfl rfl ?_
        refine J.seq rfl ?_
        refine J.seq rfl ?_
        refine J.region rfl ?_
        refine JO.pur rfl rfl rfl (Pur.move rfl) ?_
        refine JO.pur rfl rfl rfl (Pur.move rfl) ?_
        refine JO.nil ?_
        refine J.block rfl ?_
        refine J.loopF (ι := Nat) (fun q => q ≤ R) (fun q => [(60, .int .i64 (q : Int))]) [(2, _), (3, _), (59, _)] (fun q => sl intE (some ⟨b31, 0, none⟩) (R + 1) (preL (cntL (canD rs) R (xss)) q) :: sl intE a0 c0 (colL (canD rs) xss) :: blk b5 (.cells #[.slice a23 (canD rs).length c23] 24) :: sl rgE a23 c23 (canD rs) :: blk b1 (.cells #[.slice a rs.length cap, .slice la hs.length lc] 27) :: L) (fun q => R - q) 0 rfl (.cons rfl rfl (.cons rfl rfl (.cons rfl rfl .nil))) (.cons rfl rfl .nil) (fun h s => by rw [preL_zero]; exact SubC.out h s) (Nat.zero_le _) ?_
        rintro j hj ihj
        try dsimp only
        refine J.seq rfl ?_
        refine J.region rfl ?_
        refine JO.pur rfl rfl rfl (Pur.lss rfl rfl) ?_
        refine JO.nil ?_
        refine J.seq rfl ?_
        refine J.splitB 61 rfl (fun h61 => ?_) (fun h61 => ?_)
        · try simp only [decide_eq_true_eq, decide_eq_false_iff_not, Bool.not_eq_true', Bool.not_eq_false', Bool.and_eq_true, Bool.or_eq_true, Bool.and_eq_false_iff, Bool.or_eq_false_iff, Option.isNone_some, Option.isSome_some, Option.isNone_none, Option.isSome_none, Int.not_lt, Int.not_le, beq_iff_eq, beq_eq_false_iff_ne, bne_iff_ne, ne_eq, Bool.not_not, Decidable.not_not] at h61
          have hco : (colL (canD rs) xss).length = xss.length := by simp [colL]
          have hjl : j < R := by omega
          have hpl := preL_len (cntL (canD rs) R (xss)) j
          have h67 : (preL (cntL (canD rs) R (xss)) j)[j + 1]? = some ((cntL (canD rs) R (xss)).getD (j + 1) 0) := by rw [preL_get (by omega), if_neg (by omega)]
          have h71 : (preL (cntL (canD rs) R (xss)) j)[j]? = some (((cntL (canD rs) R (xss)).take (j + 1)).sum) := by rw [preL_get (by omega), if_pos (Nat.le_refl _)]
          have hts := take_sum_le (l := (cntL (canD rs) R (xss))) (j + 1) hp0
          have hge := getD_le_sum (j + 1) hp0
          rw [hps] at hts hge
          have hg0 := hp0 (j + 1)
          refine J.condT rfl rfl ?_
          refine J.skip rfl ?_
          refine J.seq rfl ?_
          refine J.block rfl ?_
          refine J.seq rfl ?_
          refine J.region rfl ?_
          refine JO.pur rfl rfl rfl (Pur.move rfl) ?_
          refine JO.pur rfl rfl rfl (Pur.assign rfl) ?_
          refine JO.nil ?_
          refine J.mask0 (n := 12) [11] rfl Try.mixed rfl (by kernel_rfl) ?_
          refine JM.take 0 (fun _ h => h) rfl (by kernel_rfl) rfl rfl rfl (m' := 1) rfl (Pur.move rfl) ?_
          refine JM.take 1 (fun _ h => h) rfl (by kernel_rfl) rfl rfl rfl (m' := 3) rfl (Pur.move rfl) ?_
          refine JM.take 2 (fun _ h => h) rfl (by kernel_rfl) rfl rfl rfl (m' := 7) rfl (Pur.add rfl rfl (wr64 (by omega))) ?_
          refine JM.take 3 (fun _ h => h) rfl (by kernel_rfl) rfl rfl rfl (m' := 15) rfl (Pur.idx rfl rfl rfl (by first | rfl | (simp; done) | omega) (show (j : Int) + 1 = ((j + 1 : Nat) : Int) from rfl) (by omega)) ?_
          refine JM.take 4 (fun _ h => h) rfl (by kernel_rfl) rfl rfl rfl (m' := 31) rfl (Pur.load rfl (CellIn.el0 rfl h67 rfl)) ?_
          refine JM.take 5 (fun _ h => h) rfl (by kernel_rfl) rfl rfl rfl (m' := 63) rfl (Pur.move rfl) ?_
          refine JM.take 6 (fun _ h => h) rfl (by kernel_rfl) rfl rfl rfl (m' := 127) rfl (Pur.move rfl) ?_
          refine JM.take 7 (fun _ h => h) rfl (by kernel_rfl) rfl rfl rfl (m' := 255) rfl (Pur.idx rfl rfl rfl (by first | rfl | (simp; done) | omega) rfl (by omega)) ?_
          refine JM.take 8 (fun _ h => h) rfl (by kernel_rfl) rfl rfl rfl (m' := 511) rfl (Pur.load rfl (CellIn.el0 rfl h71 rfl)) ?_
          refine JM.take 9 (fun _ h => h) rfl (by kernel_rfl) rfl rfl rfl (m' := 1023) rfl (Pur.add rfl rfl (wr64 (by omega))) ?_
          refine JM.take 10 (fun _ h => h) rfl (by kernel_rfl) rfl rfl rfl (m' := 2047) rfl (Pur.idx rfl rfl rfl (by first | rfl | (simp; done) | omega) (show (j : Int) + 1 = ((j + 1 : Nat) : Int) from rfl) (by omega)) ?_
          refine JM.one (i := 11) (by kernel_rfl) ?_
          refine JMi.effN rfl rfl rfl (m' := 4095) rfl (Eff.storeS0 (z' := ((cntL (canD rs) R (xss)).getD (j + 1) 0 + ((cntL (canD rs) R (xss)).take (j + 1)).sum)) rfl rfl rfl rfl (List.getElem?_eq_getElem (by omega)) .head) ?_
          rintro _ _ ⟨rfl, rfl⟩
          refine ⟨.inl (by simp), ?_⟩
          refine JM.done rfl ?_
          refine J.inBlock ?_
          refine J.region rfl ?_
          refine JO.pur rfl rfl rfl (Pur.add rfl rfl (wr64 (by omega))) ?_
          refine JO.pur rfl rfl rfl (Pur.move rfl) ?_
          refine JO.nil ?_
          exact J.weaken (.cons rfl (congrArg (Value.int .i64) (by first | rfl | (dsimp only; omega))) (.cons rfl rfl (.cons rfl rfl (.cons rfl rfl .nil)))) (fun h s => by rw [← preL_succ (by omega)]; exact SubC.out h s) (ihj (j + 1) (by omega) (by omega))
        · try simp only [decide_eq_true_eq, decide_eq_false_iff_not, Bool.not_eq_true', Bool.not_eq_false', Bool.and_eq_true, Bool.or_eq_true, Bool.and_eq_false_iff, Bool.or_eq_false_iff, Option.isNone_some, Option.isSome_some, Option.isNone_none, Option.isSome_none, Int.not_lt, Int.not_le, beq_iff_eq, beq_eq_false_iff_ne, bne_iff_ne, ne_eq, Bool.not_not, Decidable.not_not] at h61
          have hco : (colL (canD rs) xss).length = xss.length := by simp [colL]
          have hje : j = R := by omega
          refine J.condF rfl rfl ?_
          refine J.exit rfl rfl ?_
          refine J.seq rfl ?_
          refine J.region rfl ?_
          refine JO.pur rfl rfl rfl (Pur.move rfl) ?_
          refine JO.pur rfl rfl rfl (Pur.move rfl) ?_
          refine JO.pur rfl rfl rfl (Pur.assign rfl) ?_
          refine JO.pur rfl rfl rfl (Pur.assign rfl) ?_
          refine JO.pur rfl rfl rfl (Pur.assign rfl) ?_
          refine JO.nil ?_
          refine J.ret rfl rfl ?_
          have hRn : (ctV (oneR (canD rs) 0)).toNat = R := by rw [hc0]; rfl
          have hv : rowsV rs xss = (preL (cntL (canD rs) R (xss)) R, (colL (canD rs) xss), 0) := by unfold rowsV; rw [if_neg (not_not_intro hs0), if_neg (not_not_intro hl2), hRn]
          refine ⟨_, _, ⟨_, _, a0, c0, rfl, rfl⟩, by rw [hv]; dsimp only; rw [preL_len, hcnl, hco]; rfl, fun h s => ?_⟩
          rw [hje] at s
          rw [hv]
          exact SubC.out h s

end Go.Proofs.Ytnhippfllgnngaa

/- The text SH5. -/
set_option linter.unusedVariables false
set_option linter.unusedSimpArgs false
set_option maxRecDepth 10000
namespace Go.Proofs.Ytnhippfllgnngaa
open Go Go.KK Dm

def thD : List Rg := [⟨1, 3, 1⟩, ⟨1, 3, 1⟩]
def thL : List (List Int) := [[1, 2], [3, 1], [3, 3]]
theorem th_rows : rowsV thD thL = ([0, 1, 1, 3], [1, 0, 2], 0) := by decide +kernel
theorem three_ok {L : List Asn} :
    CallS Try.prog 84 [].toArray L (fun v M => ∃ a' c', v = .agg #[.slice a' thD.length c'] ∧ M = sl rgE a' c' thD :: L) := by
  refine CallS.ent ?_
  refine CallS.enter Try.func84 rfl rfl rfl rfl rfl ?_
  refine J.seq rfl ?_
  refine J.region rfl ?_
  refine JO.eff rfl rfl rfl (Eff.alloc (cs := [_]) rfl) ?_
  rintro _ _ ⟨b0, rfl, rfl⟩
  refine JO.nil ?_
  refine J.seq rfl ?_
  refine J.region rfl ?_
  refine JO.pur rfl rfl rfl (Pur.build (cs := [_, _, _]) rfl rfl) ?_
  refine JO.pur rfl rfl rfl (Pur.build (cs := [_, _, _]) rfl rfl) ?_
  refine JO.eff rfl rfl rfl (Eff.buildSlice rgE thD rfl rfl rfl rfl rfl rfl rfl) ?_
  rintro _ _ ⟨b3, rfl, -, rfl⟩
  refine JO.pur rfl rfl rfl (Pur.build (cs := [_]) rfl rfl) ?_
  refine JO.effN rfl rfl (Eff.storeBA (cs' := [_]) rfl rfl (by rfl) (by rfl) (by rfl)) ?_
  rintro _ _ ⟨rfl, rfl⟩
  refine JO.nil ?_
  refine J.retC rfl (.cell rfl (ld_agg rfl CellsIn.blk) .nil) ?_
  refine ⟨_, _, ⟨some ⟨b3, 0, none⟩, 2, rfl, rfl⟩, rfl, SubC.out⟩

theorem th_rowsA {b6 b7 b8 b9 : Nat} {a5 : Option Addr} {c5 : Nat} {L : List Asn} {h : Hp} (s : Sat h (sl hE (some ⟨b9, 0, none⟩) 3 [⟨some ⟨b6, 0, none⟩, 2, 2⟩, ⟨some ⟨b7, 0, none⟩, 2, 2⟩, ⟨some ⟨b8, 0, none⟩, 2, 2⟩] :: sl intE (some ⟨b8, 0, none⟩) 2 [3, 3] :: sl intE (some ⟨b7, 0, none⟩) 2 [3, 1] :: sl intE (some ⟨b6, 0, none⟩) 2 [1, 2] :: sl rgE a5 c5 thD :: L)) :
    Sat h (sl hE (some ⟨b9, 0, none⟩) 3 [⟨some ⟨b6, 0, none⟩, 2, 2⟩, ⟨some ⟨b7, 0, none⟩, 2, 2⟩, ⟨some ⟨b8, 0, none⟩, 2, 2⟩] :: rows intE [⟨some ⟨b6, 0, none⟩, 2, 2⟩, ⟨some ⟨b7, 0, none⟩, 2, 2⟩, ⟨some ⟨b8, 0, none⟩, 2, 2⟩] thL :: sl rgE a5 c5 thD :: L) := by
  have s2 : Sat h (sl intE (some ⟨b6, 0, none⟩) 2 [1, 2] :: sl intE (some ⟨b7, 0, none⟩) 2 [3, 1] :: sl intE (some ⟨b8, 0, none⟩) 2 [3, 3] :: sl hE (some ⟨b9, 0, none⟩) 3 [⟨some ⟨b6, 0, none⟩, 2, 2⟩, ⟨some ⟨b7, 0, none⟩, 2, 2⟩, ⟨some ⟨b8, 0, none⟩, 2, 2⟩] :: sl rgE a5 c5 thD :: L) := SubC.out h s
  have s3 : Sat h (rows intE [⟨some ⟨b6, 0, none⟩, 2, 2⟩, ⟨some ⟨b7, 0, none⟩, 2, 2⟩, ⟨some ⟨b8, 0, none⟩, 2, 2⟩] thL :: sl hE (some ⟨b9, 0, none⟩) 3 [⟨some ⟨b6, 0, none⟩, 2, 2⟩, ⟨some ⟨b7, 0, none⟩, 2, 2⟩, ⟨some ⟨b8, 0, none⟩, 2, 2⟩] :: sl rgE a5 c5 thD :: L) := rows_iff.2 ⟨rfl, s2⟩
  exact SubC.out h s3
theorem first_ok {L : List Asn} :
    CallS Try.prog 21 [].toArray L (fun v M => v = .bool true ∧ M = L) := by
  refine CallS.ent ?_
  refine CallS.enter Try.func21 rfl rfl rfl rfl rfl ?_
  refine J.seq rfl ?_
  refine J.region rfl ?_
  refine JO.pur rfl rfl rfl (Pur.assign rfl) ?_
  refine JO.nil ?_
  refine J.seq rfl ?_
  refine J.region rfl ?_
  refine JO.eff rfl rfl rfl (Eff.call rfl (three_ok)) ?_
  rintro _ _ ⟨a5, c5, rfl, rfl⟩
  refine JO.eff rfl rfl rfl (Eff.buildSlice intE [1, 2] rfl rfl rfl rfl rfl rfl rfl) ?_
  rintro _ _ ⟨b6, rfl, -, rfl⟩
  refine JO.eff rfl rfl rfl (Eff.buildSlice intE [3, 1] rfl rfl rfl rfl rfl rfl rfl) ?_
  rintro _ _ ⟨b7, rfl, -, rfl⟩
  refine JO.eff rfl rfl rfl (Eff.buildSlice intE [3, 3] rfl rfl rfl rfl rfl rfl rfl) ?_
  rintro _ _ ⟨b8, rfl, -, rfl⟩
  refine JO.eff rfl rfl rfl (Eff.buildSlice hE [⟨some ⟨b6, 0, none⟩, 2, 2⟩, ⟨some ⟨b7, 0, none⟩, 2, 2⟩, ⟨some ⟨b8, 0, none⟩, 2, 2⟩] rfl rfl rfl rfl rfl rfl rfl) ?_
  rintro _ _ ⟨b9, rfl, -, rfl⟩
  refine JO.pur rfl rfl rfl (Pur.build (cs := [_, _]) rfl rfl) ?_
  refine JO.imp (M := sl hE (some ⟨b9, 0, none⟩) 3 [⟨some ⟨b6, 0, none⟩, 2, 2⟩, ⟨some ⟨b7, 0, none⟩, 2, 2⟩, ⟨some ⟨b8, 0, none⟩, 2, 2⟩] :: rows intE [⟨some ⟨b6, 0, none⟩, 2, 2⟩, ⟨some ⟨b7, 0, none⟩, 2, 2⟩, ⟨some ⟨b8, 0, none⟩, 2, 2⟩] thL :: sl rgE a5 c5 thD :: L) (fun h s => ?_) ?_
  · exact th_rowsA s
  refine JO.eff rfl rfl rfl (Eff.call rfl (s_Rows (rs := thD) (hs := [⟨some ⟨b6, 0, none⟩, 2, 2⟩, ⟨some ⟨b7, 0, none⟩, 2, 2⟩, ⟨some ⟨b8, 0, none⟩, 2, 2⟩]) (xss := thL) rfl rfl)) ?_
  rintro _ _ ⟨a11, c11, a12, c12, rfl, rfl⟩
  rw [th_rows]
  refine JO.pur rfl rfl rfl (Pur.move rfl) ?_
  refine JO.pur rfl rfl rfl (Pur.extract rfl rfl) ?_
  refine JO.pur rfl rfl rfl (Pur.extract rfl rfl) ?_
  refine JO.pur rfl rfl rfl (Pur.extract rfl rfl) ?_
  refine JO.pur rfl rfl rfl (Pur.assign rfl) ?_
  refine JO.pur rfl rfl rfl (Pur.assign rfl) ?_
  refine JO.pur rfl rfl rfl (Pur.assign rfl) ?_
  refine JO.nil ?_
  refine J.seq rfl ?_
  refine J.region rfl ?_
  refine JO.pur rfl rfl rfl (Pur.move rfl) ?_
  refine JO.pur rfl rfl rfl (Pur.eqlI rfl rfl) ?_
  refine JO.pur rfl rfl rfl (Pur.move rfl) ?_
  refine JO.setv (u' := .bool true) 17 rfl (congrArg Value.bool (rfl)) ?_
  refine JO.pur rfl rfl rfl (Pur.move rfl) ?_
  refine JO.eff rfl rfl rfl (Eff.buildSlice intE [0, 1, 1, 3] rfl rfl rfl rfl rfl rfl rfl) ?_
  rintro _ _ ⟨b19, rfl, -, rfl⟩
  refine JO.effR rfl rfl rfl (Eff.call rfl (same5_ok (xs := [0, 1, 1, 3]) (ys := [0, 1, 1, 3]) rfl rfl (by decide))) ?_
  refine JO.setv (u' := .bool true) 20 rfl (congrArg Value.bool (decide_eq_true rfl)) ?_
  refine JO.pur rfl rfl rfl (Pur.pickT rfl rfl) ?_
  refine JO.pur rfl rfl rfl (Pur.move rfl) ?_
  refine JO.pur rfl rfl rfl (Pur.move rfl) ?_
  refine JO.eff rfl rfl rfl (Eff.buildSlice intE [1, 0, 2] rfl rfl rfl rfl rfl rfl rfl) ?_
  rintro _ _ ⟨b24, rfl, -, rfl⟩
  refine JO.effR rfl rfl rfl (Eff.call rfl (same5_ok (xs := [1, 0, 2]) (ys := [1, 0, 2]) rfl rfl (by decide))) ?_
  refine JO.setv (u' := .bool true) 25 rfl (congrArg Value.bool (decide_eq_true rfl)) ?_
  refine JO.pur rfl rfl rfl (Pur.pickT rfl rfl) ?_
  refine JO.pur rfl rfl rfl (Pur.assign rfl) ?_
  refine JO.nil ?_
  refine J.ret rfl rfl ?_
  refine ⟨_, _, ⟨rfl, rfl⟩, rfl, SubC.out⟩

end Go.Proofs.Ytnhippfllgnngaa
