/-
  A part of the proof of the claim that this folder bears.
  This text: CLaw.
-/
import Derived.Test.YtekgkamjbnfgiaaCPlain
/-!
  The law of vector clocks, without a program.
-/
set_option linter.unusedVariables false
set_option linter.unusedSimpArgs false
namespace Ck

theorem hasCell_cons' (g : List Str) (c x : Str) : hasCell (c :: g) x = (decide (c = x) || hasCell g x) := by simp [hasCell]
theorem given_fold (c : Str) : ∀ (l : List Evt) (s : Seen), hasCell (l.foldl after s).given c = (hasCell s.given c || l.any (fun e => decide (e.act = sGive) && decide (e.cell = c)))
  | [], s => by simp
  | e :: l, s => by
    rw [List.foldl_cons, given_fold c l, List.any_cons, ← Bool.or_assoc]
    congr 1
    unfold after
    split
    · rename_i h; simp [h, show ¬ sFork = sGive by decide]
    · split
      · rename_i h; simp [h, show ¬ sJoin = sGive by decide]
      · split
        · rename_i h; rw [hasCell_cons']; simp [h, Bool.or_comm]
        · rename_i h; simp [h]
theorem given_seen (l : List Evt) (c : Str) : hasCell (Ck.seen l).given c = l.any (fun e => decide (e.act = sGive) && decide (e.cell = c)) := by
  unfold Ck.seen; rw [given_fold]; simp [Ck.start, hasCell]
theorem first_lt {xs : List Evt} {c : Str} {i : Nat} (hi : i ≤ xs.length) : (hasCell (Ck.seen (xs.take i)).given c = false) ↔ i ≤ firstGive xs c := by
  rw [given_seen]
  constructor
  · intro h
    unfold firstGive
    cases hf : xs.findIdx? (fun e => decide (e.act = sGive) && decide (e.cell = c)) with
    | none => simpa using hi
    | some j =>
      simp only [Option.getD_some]
      rw [List.findIdx?_eq_some_iff_getElem] at hf
      obtain ⟨hj, hp, _⟩ := hf
      rcases Nat.lt_or_ge j i with hji | hji
      · have hm : xs[j] ∈ xs.take i := by rw [List.mem_take_iff_getElem]; exact ⟨j, by omega, rfl⟩
        have := List.any_eq_false.1 h _ hm
        exact absurd hp this
      · exact hji
  · intro h
    rw [List.any_eq_false]
    intro e he hp
    rw [List.mem_take_iff_getElem] at he
    obtain ⟨j, hj, rfl⟩ := he
    unfold firstGive at h
    cases hf : xs.findIdx? (fun e => decide (e.act = sGive) && decide (e.cell = c)) with
    | none =>
      rw [List.findIdx?_eq_none_iff] at hf
      have := hf _ (List.getElem_mem (show j < xs.length by omega))
      rw [hp] at this; cases this
    | some k =>
      rw [hf] at h
      simp only [Option.getD_some] at h
      rw [List.findIdx?_eq_some_iff_getElem] at hf
      obtain ⟨hk, _, hq⟩ := hf
      exact hq j (by omega) hp

def ev (l : List Evt) (i : Nat) : Evt := l.getD i default
theorem ev_get {l : List Evt} {i : Nat} (h : i < l.length) : l[i]? = some (ev l i) := by simp [ev, List.getD_eq_getElem?_getD, h]
theorem ev_el {l : List Evt} {i : Nat} (h : i < l.length) : l[i] = ev l i := by simp [ev, List.getD_eq_getElem?_getD, h]
def tk (l : List Evt) (i : Nat) : Nat := (ev l i).task.toNat
def tn (l : List Evt) (k : Nat) : Nat := many (l.take k)
theorem tn_succ {l : List Evt} {k : Nat} (h : k < l.length) : tn l (k + 1) = tn l k + if (ev l k).act = sFork then 1 else 0 := by
  unfold tn many
  rw [List.take_succ_eq_append_getElem h, List.filter_append, List.length_append, ev_el h]
  by_cases hh : (ev l k).act = sFork <;> simp [hh] <;> omega
theorem tn_le {l : List Evt} : ∀ {k m : Nat}, k ≤ m → m ≤ l.length → tn l k ≤ tn l m := by
  intro k m h hm
  induction m with
  | zero => have : k = 0 := by omega
            subst this; exact Nat.le_refl _
  | succ m ih =>
    by_cases hk : k = m + 1
    · subst hk; exact Nat.le_refl _
    · have := ih (by omega) (by omega)
      rw [tn_succ (by omega)]; omega
theorem tn_all (l : List Evt) : tn l l.length = many l := by simp [tn]
theorem tn_many {l : List Evt} {k : Nat} (h : k ≤ l.length) : tn l k ≤ many l := by rw [← tn_all]; exact tn_le h (Nat.le_refl _)

theorem fold_len : ∀ (l : List Evt) (s : Seen), (l.foldl after s).joined.length = s.joined.length + (l.filter (fun e => decide (e.act = sFork))).length
  | [], s => by simp
  | e :: l, s => by
    rw [List.foldl_cons, fold_len l]
    unfold after
    by_cases h1 : e.act = sFork
    · simp [h1]; omega
    · by_cases h2 : e.act = sJoin
      · simp [h2, show ¬ sJoin = sFork by decide]
      · by_cases h3 : e.act = sGive <;> simp [h1, h2, h3, show ¬ sGive = sFork by decide, show ¬ sGive = sJoin by decide]
theorem seen_len (l : List Evt) (k : Nat) : (seen (l.take k)).joined.length = tn l k := by
  unfold seen tn many; rw [fold_len]; simp [start]

theorem ok_at {l : List Evt} : ∀ {n : Nat}, okB l n = true → ∀ {k : Nat}, k < n → k < l.length → okE (seen (l.take k)) (ev l k) = true
  | 0, _, k, hk, _ => by omega
  | n + 1, h, k, hk, hl => by
    simp only [okB, Bool.and_eq_true] at h
    by_cases e : k = n
    · subst e
      have := h.2
      rw [ev_get hl] at this; exact this
    · exact ok_at h.1 (by omega) hl

structure FineAt (l : List Evt) (k : Nat) : Prop where
  t0 : 0 ≤ (ev l k).task
  tl : tk l k < tn l k
  fork : (ev l k).act = sFork → (ev l k).other = tn l k
  join : (ev l k).act = sJoin → 0 ≤ (ev l k).other ∧ (ev l k).other.toNat < tn l k ∧ (ev l k).other ≠ (ev l k).task
  get : (ev l k).act = sGet → firstGive l (ev l k).cell < k
  kind : (((ev l k).act = sFork ∨ (ev l k).act = sJoin) ∧ (ev l k).cell = (⟨#[]⟩ : ByteArray)) ∨ (isAcc (ev l k).act = true ∧ (ev l k).act ≠ sFork ∧ (ev l k).act ≠ sJoin ∧ (ev l k).cell ≠ (⟨#[]⟩ : ByteArray))

theorem fine_at {l : List Evt} (h : okB l l.length = true) {k : Nat} (hk : k < l.length) : FineAt l k := by
  have h1 := ok_at h hk hk
  unfold okE at h1
  rw [seen_len] at h1
  split at h1
  · cases h1
  rename_i hno
  simp only [not_or, Int.not_lt, Int.not_le] at hno
  have t0 : 0 ≤ (ev l k).task := hno.1
  have tl : tk l k < tn l k := by unfold tk; omega
  split at h1
  · rename_i hf
    simp only [Bool.and_eq_true, decide_eq_true_eq] at h1
    exact ⟨t0, tl, fun _ => h1.1, fun hh => by rw [hf] at hh; exact absurd hh (by decide), fun hh => by rw [hf] at hh; exact absurd hh (by decide), .inl ⟨.inl hf, h1.2⟩⟩
  · rename_i hf
    split at h1
    · rename_i hj
      simp only [Bool.and_eq_true, decide_eq_true_eq] at h1
      exact ⟨t0, tl, fun hh => absurd hh hf, fun _ => ⟨h1.1.1.1.2, by have := h1.1.1.2; have := h1.1.1.1.2; omega, h1.1.2⟩, fun hh => by rw [hj] at hh; exact absurd hh (by decide), .inl ⟨.inr hj, h1.1.1.1.1⟩⟩
    · rename_i hj
      split at h1
      · cases h1
      · rename_i ha
        simp only [not_or] at ha
        refine ⟨t0, tl, fun hh => absurd hh hf, fun hh => absurd hh hj, fun hh => ?_, .inr ⟨by simpa using ha.1, hf, hj, ha.2.2.1⟩⟩
        simp only [hh, decide_true, Bool.true_and, Bool.not_not] at h1
        rcases Nat.lt_or_ge (firstGive l (ev l k).cell) k with h2 | h2
        · exact h2
        · rw [(first_lt (by omega)).2 h2] at h1; cases h1

/-! Counting a task's events. -/
def cnt (l : List Evt) (u k : Nat) : Nat := (l.take k).countP (fun e => decide (e.task.toNat = u))
theorem cnt_succ {l : List Evt} {u k : Nat} (h : k < l.length) : cnt l u (k + 1) = cnt l u k + if tk l k = u then 1 else 0 := by
  unfold cnt tk
  rw [List.take_succ_eq_append_getElem h, List.countP_append, ev_el h]
  by_cases hh : (ev l k).task.toNat = u <;> simp [hh]
theorem cnt_le {l : List Evt} {u k m : Nat} (h : k ≤ m) : cnt l u k ≤ cnt l u m := by
  unfold cnt
  have : l.take k = (l.take m).take k := by rw [List.take_take]; congr 1; omega
  rw [this]
  exact (List.take_sublist k (l.take m)).countP_le
def ix (l : List Evt) (i : Nat) : Nat := cnt l (tk l i) (i + 1)
theorem ix_le {l : List Evt} {i k : Nat} (h : i < k) : ix l i ≤ cnt l (tk l i) k := cnt_le (by omega)
theorem ix_gt {l : List Evt} {i k : Nat} (h : k ≤ i) (hi : i < l.length) : cnt l (tk l i) k < ix l i := by
  have h1 : cnt l (tk l i) k ≤ cnt l (tk l i) i := cnt_le h
  have h2 := cnt_succ (u := tk l i) hi
  rw [if_pos rfl] at h2
  unfold ix; omega

/-! What comes before what. -/
def St (l : List Evt) (i k : Nat) : Prop := i < k ∧ k < l.length ∧ stepB l (ev l i) (ev l k) i = true
inductive Bef (l : List Evt) : Nat → Nat → Prop
  | one {i k : Nat} : St l i k → Bef l i k
  | more {i j k : Nat} : Bef l i j → St l j k → Bef l i k
theorem Bef.lt {l : List Evt} {i k : Nat} (h : Bef l i k) : i < k ∧ k < l.length := by
  induction h with
  | one h => exact ⟨h.1, h.2.1⟩
  | more _ h ih => exact ⟨by have := h.1; omega, h.2.1⟩
theorem Bef.trans {l : List Evt} {i j k : Nat} (h : Bef l i j) (h2 : Bef l j k) : Bef l i k := by
  induction h2 with
  | one h2 => exact .more h h2
  | more _ h2 ih => exact .more ih h2
theorem Bef.last {l : List Evt} {i k : Nat} : Bef l i k ↔ ∃ j, (j = i ∨ Bef l i j) ∧ St l j k := by
  constructor
  · intro h
    cases h with
    | one h => exact ⟨i, .inl rfl, h⟩
    | more h h2 => exact ⟨_, .inr h, h2⟩
  · rintro ⟨j, rfl | h, h2⟩
    · exact .one h2
    · exact .more h h2
theorem Bef.prog {l : List Evt} {i k : Nat} (h : i < k) (hk : k < l.length) (ht : (ev l i).task = (ev l k).task) : Bef l i k := .one ⟨h, hk, by simp [stepB, ht]⟩

/-! The clocks, as lists. -/
def vmax (a b : List Int) : List Int := List.zipWith max a b
theorem vmax_get {a b : List Int} (h : a.length = b.length) (u : Nat) : (vmax a b).getD u 0 = max (a.getD u 0) (b.getD u 0) := by
  unfold vmax
  simp only [List.getD_eq_getElem?_getD, List.getElem?_zipWith]
  by_cases hu : u < a.length
  · rw [List.getElem?_eq_getElem hu, List.getElem?_eq_getElem (by omega)]; simp
  · rw [List.getElem?_eq_none (by omega), List.getElem?_eq_none (by omega)]; simp
theorem vmax_len {a b : List Int} (h : a.length = b.length) : (vmax a b).length = a.length := by simp [vmax, h]

/-- The vector 'v' tells just the events of S, of those ahead of m. -/
structure Kno (l : List Evt) (m : Nat) (S : Nat → Prop) (v : List Int) : Prop where
  len : v.length = many l
  lo : ∀ u, u < many l → 0 ≤ v.getD u 0
  hi : ∀ u, u < many l → v.getD u 0 ≤ cnt l u m
  tell : ∀ i, i < m → (S i ↔ (ix l i : Int) ≤ v.getD (tk l i) 0)

theorem Kno.vmax {l : List Evt} {m : Nat} {S T U : Nat → Prop} {v w : List Int} (h : Kno l m S v) (h2 : Kno l m T w) (hU : ∀ i, i < m → (U i ↔ (S i ∨ T i))) : Kno l m U (vmax v w) := by
  have hl : v.length = w.length := by rw [h.len, h2.len]
  refine ⟨by rw [vmax_len hl, h.len], fun u hu => ?_, fun u hu => ?_, fun i hi => ?_⟩
  · rw [vmax_get hl]; have := h.lo u hu; omega
  · rw [vmax_get hl]; have := h.hi u hu; have := h2.hi u hu; omega
  · rw [vmax_get hl, hU i hi, h.tell i hi, h2.tell i hi]; omega
theorem Kno.up {l : List Evt} (hf : ∀ k, k < l.length → FineAt l k) {m m' : Nat} {S : Nat → Prop} {v : List Int} (h : Kno l m S v) (hm : m ≤ m') (hl : m' ≤ l.length) (hS : ∀ i, S i → i < m) : Kno l m' S v := by
  refine ⟨h.len, h.lo, fun u hu => ?_, fun i hi => ?_⟩
  · have := h.hi u hu; have := cnt_le (l := l) (u := u) hm; omega
  · by_cases him : i < m
    · exact h.tell i him
    · have h1 := ix_gt (l := l) (i := i) (k := m) (by omega) (by omega)
      have h2 := h.hi (tk l i) (by have := (hf i (by omega)).tl; have := tn_many (l := l) (k := i) (by omega); omega)
      constructor
      · intro hs; exact absurd (hS i hs) him
      · intro hh; omega
theorem Kno.congr {l : List Evt} {m : Nat} {S T : Nat → Prop} {v : List Int} (h : Kno l m S v) (hT : ∀ i, i < m → (T i ↔ S i)) : Kno l m T v := ⟨h.len, h.lo, h.hi, fun i hi => (hT i hi).trans (h.tell i hi)⟩
theorem set_getD {v : List Int} {t u : Nat} {x : Int} (h : t < v.length) : (v.set t x).getD u 0 = if u = t then x else v.getD u 0 := by
  simp only [List.getD_eq_getElem?_getD]
  by_cases e : u = t
  · subst e; simp [h]
  · rw [List.getElem?_set_ne (fun h => e h.symm), if_neg e]
theorem Kno.inc {l : List Evt} {k : Nat} {S : Nat → Prop} {v : List Int} (h : Kno l k S v) (hk : k < l.length) (hf : FineAt l k) (hS : ∀ i, i < k → tk l i = tk l k → S i) (hv : v.getD (tk l k) 0 = cnt l (tk l k) k) :
    Kno l (k + 1) (fun i => i = k ∨ S i) (v.set (tk l k) (v.getD (tk l k) 0 + 1)) := by
  have ht : tk l k < many l := by have := hf.tl; have := tn_many (l := l) (k := k) (by omega); omega
  have htv : tk l k < v.length := by rw [h.len]; exact ht
  refine ⟨by simp [h.len], fun u hu => ?_, fun u hu => ?_, fun i hi => ?_⟩
  · rw [set_getD htv]; have := h.lo u hu; split
    · omega
    · omega
  · rw [set_getD htv, cnt_succ hk]
    have := h.hi u hu
    split
    · rename_i e; subst e; rw [if_pos rfl]; omega
    · rename_i e; rw [if_neg (fun h => e h.symm)]; omega
  · rw [set_getD htv]
    by_cases e : i = k
    · subst e
      simp only [true_or, if_true, true_iff]
      have := cnt_succ (u := tk l i) hk
      rw [if_pos rfl] at this
      unfold ix; omega
    · have hik : i < k := by omega
      simp only [e, false_or]
      split
      · rename_i e2
        have h1 := hS i hik e2
        simp only [h1, true_iff]
        have := ix_le (l := l) hik
        rw [e2] at this; omega
      · exact h.tell i hik

structure CS where
  now : List (List Int)
  given : List (Str × List Int)
  out : List (List Int)
def glook (g : List (Str × List Int)) (c : Str) : Option (List Int) := (g.find? (fun p => decide (c = p.1))).map (·.2)
def cown (s : CS) (e : Evt) : List Int :=
  let own := s.now.getD e.task.toNat []
  let own1 := if e.act = sJoin then vmax own (s.now.getD e.other.toNat []) else if e.act = sGet then vmax own ((glook s.given e.cell).getD []) else own
  own1.set e.task.toNat (own1.getD e.task.toNat 0 + 1)
def cnow (s : CS) (e : Evt) : List (List Int) :=
  let now1 := s.now.set e.task.toNat (cown s e)
  if e.act = sFork then now1.set e.other.toNat (vmax (now1.getD e.other.toNat []) (cown s e)) else now1
def cgiven (s : CS) (e : Evt) : List (Str × List Int) :=
  if e.act = sGive then (match glook s.given e.cell with | some _ => s.given | none => s.given ++ [(e.cell, cown s e)]) else s.given
def cstep (s : CS) (e : Evt) : CS := ⟨cnow s e, cgiven s e, s.out ++ [cown s e]⟩
def cstart (n : Nat) : CS := ⟨List.replicate n (List.replicate n 0), [], []⟩
def cfold (l : List Evt) (k : Nat) : CS := (l.take k).foldl cstep (cstart (many l))
def clks (l : List Evt) : List (List Int) := (cfold l l.length).out
theorem cfold_succ {l : List Evt} {k : Nat} (h : k < l.length) : cfold l (k + 1) = cstep (cfold l k) (ev l k) := by
  unfold cfold; rw [List.take_succ_eq_append_getElem h, List.foldl_append, ev_el h]; rfl
theorem glook_snoc (g : List (Str × List Int)) (c c' : Str) (v : List Int) : glook (g ++ [(c, v)]) c' = (glook g c').or (if c' = c then some v else none) := by
  unfold glook
  rw [List.find?_append]
  cases hf : g.find? (fun p => decide (c' = p.1)) with
  | some p => simp
  | none =>
    by_cases e : c' = c <;> simp [e]

/-- What a task knows: what its next event would come behind, by its own and by the fork that made it. -/
def Kn (l : List Evt) (k t i : Nat) : Prop := ∃ j, j < k ∧ (j = i ∨ Bef l i j) ∧ (tk l j = t ∨ ((ev l j).act = sFork ∧ (ev l j).other.toNat = t))
theorem Kn.lt {l : List Evt} {k t i : Nat} (h : Kn l k t i) : i < k := by
  obtain ⟨j, hj, rfl | h, _⟩ := h
  · exact hj
  · have := h.lt; omega

structure Inv (l : List Evt) (k : Nat) (s : CS) : Prop where
  len : s.now.length = many l
  now : ∀ t, t < many l → Kno l k (Kn l k t) (s.now.getD t [])
  own : ∀ t, t < many l → (s.now.getD t []).getD t 0 = cnt l t k
  outl : s.out.length = k
  out : ∀ i, i < k → Kno l (i + 1) (fun j => j = i ∨ Bef l j i) (s.out.getD i [])
  giv : ∀ c, glook s.given c = if firstGive l c < k then some (s.out.getD (firstGive l c) []) else none

theorem rep_getD {α : Type} {n t : Nat} {x d : α} (h : t < n) : (List.replicate n x).getD t d = x := by
  simp [List.getD_eq_getElem?_getD, List.getElem?_replicate, h]
theorem inv0 (l : List Evt) : Inv l 0 (cfold l 0) := by
  unfold cfold cstart
  simp only [List.take_zero, List.foldl_nil]
  refine ⟨by simp, fun t ht => ?_, fun t ht => ?_, rfl, fun i hi => by omega, fun c => by simp [glook]⟩
  · rw [rep_getD ht]
    exact ⟨by simp, fun u hu => by rw [rep_getD hu]; exact Int.le_refl _, fun u hu => by rw [rep_getD hu]; omega, fun i hi => by omega⟩
  · rw [rep_getD ht, rep_getD ht]; simp [cnt]

theorem first_give {l : List Evt} {c : Str} {k : Nat} (h : firstGive l c = k) (hk : k < l.length) : (ev l k).act = sGive ∧ (ev l k).cell = c := by
  unfold firstGive at h
  cases hf : l.findIdx? (fun e => decide (e.act = sGive) && decide (e.cell = c)) with
  | none => rw [hf] at h; simp at h; omega
  | some j =>
    rw [hf] at h; simp only [Option.getD_some] at h; subst h
    rw [List.findIdx?_eq_some_iff_getElem] at hf
    obtain ⟨hj, hp, _⟩ := hf
    rw [ev_el hj] at hp
    simpa using hp
theorem first_le {l : List Evt} {k : Nat} (hk : k < l.length) (h : (ev l k).act = sGive) : firstGive l (ev l k).cell ≤ k := by
  rcases Nat.lt_or_ge k (firstGive l (ev l k).cell) with h1 | h1
  · have h2 := (first_lt (xs := l) (c := (ev l k).cell) (i := k + 1) (by omega)).2 (by omega)
    rw [given_seen, List.any_eq_false] at h2
    exfalso
    refine h2 (ev l k) ?_ (by simp [h])
    rw [List.mem_take_iff_getElem]
    exact ⟨k, by omega, ev_el hk⟩
  · exact h1

theorem task_eq {l : List Evt} {i k : Nat} (h1 : FineAt l i) (h2 : FineAt l k) : (ev l i).task = (ev l k).task ↔ tk l i = tk l k := by
  have := h1.t0; have := h2.t0; unfold tk; omega

theorem set_getL {s : List (List Int)} {t u : Nat} {x : List Int} (h : t < s.length) : (s.set t x).getD u [] = if u = t then x else s.getD u [] := by
  simp only [List.getD_eq_getElem?_getD]
  by_cases e : u = t
  · subst e; simp [h]
  · rw [List.getElem?_set_ne (fun h => e h.symm), if_neg e]

theorem inv_own {l : List Evt} (hf : ∀ k, k < l.length → FineAt l k) {k : Nat} {s : CS} (hk : k < l.length) (h : Inv l k s) : Kno l (k + 1) (fun i => i = k ∨ Bef l i k) (cown s (ev l k)) := by
  have hF := hf k hk
  have ht : tk l k < many l := by have := hF.tl; have := tn_many (l := l) (k := k) (by omega); omega
  have hnow := h.now _ ht
  have hown := h.own _ ht
  have hlast : ∀ i, i < k → (Bef l i k ↔ ∃ j, j < k ∧ (j = i ∨ Bef l i j) ∧ stepB l (ev l j) (ev l k) j = true) := fun i hi => by
    rw [Bef.last]
    constructor
    · rintro ⟨j, h1, h2⟩; exact ⟨j, h2.1, h1, h2.2.2⟩
    · rintro ⟨j, h1, h2, h3⟩; exact ⟨j, h2, h1, hk, h3⟩
  have htk : ∀ j, j < k → ((ev l j).task = (ev l k).task ↔ tk l j = tk l k) := fun j hj => task_eq (hf j (by omega)) hF
  have hoth : ∀ j, j < k → (ev l j).act = sFork → 0 ≤ (ev l j).other := fun j hj hh => by have := (hf j (by omega)).fork hh; omega
  have hself : ∀ i, i < k → tk l i = tk l k → Bef l i k := fun i hi e => Bef.prog hi hk ((htk i hi).2 e)
  have hk0 := hF.t0
  have key : Kno l k (fun i => Bef l i k) (if (ev l k).act = sJoin then vmax (s.now.getD (tk l k) []) (s.now.getD (ev l k).other.toNat []) else if (ev l k).act = sGet then vmax (s.now.getD (tk l k) []) ((glook s.given (ev l k).cell).getD []) else s.now.getD (tk l k) []) ∧
      (if (ev l k).act = sJoin then vmax (s.now.getD (tk l k) []) (s.now.getD (ev l k).other.toNat []) else if (ev l k).act = sGet then vmax (s.now.getD (tk l k) []) ((glook s.given (ev l k).cell).getD []) else s.now.getD (tk l k) []).getD (tk l k) 0 = cnt l (tk l k) k := by
    by_cases hj : (ev l k).act = sJoin
    · rw [if_pos hj]
      obtain ⟨o0, ol, one⟩ := hF.join hj
      have hon : (ev l k).other.toNat < many l := by have := tn_many (l := l) (k := k) (by omega); omega
      have hno := h.now _ hon
      refine ⟨hnow.vmax hno fun i hi => ?_, ?_⟩
      · rw [hlast i hi]
        unfold Kn
        constructor
        · rintro ⟨j, h1, h2, h3⟩
          simp only [stepB, hj, show ¬ sJoin = sGet by decide, decide_true, decide_false, Bool.true_and, Bool.false_and, Bool.or_false, Bool.or_eq_true, Bool.and_eq_true, decide_eq_true_eq] at h3
          rcases h3 with (h3 | ⟨h3, h4 | h4⟩) | h3
          · exact .inl ⟨j, h1, h2, .inl ((htk j h1).1 h3)⟩
          · exact .inl ⟨j, h1, h2, .inr ⟨h3, by unfold tk; rw [h4]⟩⟩
          · exact .inr ⟨j, h1, h2, .inr ⟨h3, by rw [h4]⟩⟩
          · exact .inr ⟨j, h1, h2, .inl (by unfold tk; rw [h3])⟩
        · rintro (⟨j, h1, h2, h3⟩ | ⟨j, h1, h2, h3⟩)
          · refine ⟨j, h1, h2, ?_⟩
            rcases h3 with h3 | ⟨h3, h4⟩
            · simp [stepB, (htk j h1).2 h3]
            · have := hoth j h1 h3
              have e : (ev l j).other = (ev l k).task := by unfold tk at h4; omega
              simp [stepB, h3, e]
          · refine ⟨j, h1, h2, ?_⟩
            rcases h3 with h3 | ⟨h3, h4⟩
            · have := (hf j (by omega)).t0
              have e : (ev l k).other = (ev l j).task := by unfold tk at h3; omega
              simp [stepB, hj, e]
            · have := hoth j h1 h3
              have e : (ev l k).other = (ev l j).other := by omega
              simp [stepB, h3, hj, e]
      · rw [vmax_get (by rw [hnow.len, hno.len]), hown]
        have := hno.hi _ ht; omega
    · rw [if_neg hj]
      by_cases hg : (ev l k).act = sGet
      · rw [if_pos hg]
        have hfg := hF.get hg
        have hgl := h.giv (ev l k).cell
        rw [if_pos hfg] at hgl
        rw [hgl]
        simp only [Option.getD_some]
        have hgo := (h.out _ hfg).up hf (m' := k) (by omega) (by omega) (fun i hi => by rcases hi with rfl | hi; omega; have := hi.lt; omega)
        have hgg := first_give (l := l) (c := (ev l k).cell) rfl (by omega)
        refine ⟨hnow.vmax hgo fun i hi => ?_, ?_⟩
        · rw [hlast i hi]
          unfold Kn
          constructor
          · rintro ⟨j, h1, h2, h3⟩
            simp only [stepB, hg, show ¬ sGet = sJoin by decide, decide_true, decide_false, Bool.true_and, Bool.false_and, Bool.or_false, Bool.or_eq_true, Bool.and_eq_true, decide_eq_true_eq] at h3
            rcases h3 with (h3 | ⟨h3, h4⟩) | ⟨⟨h3, h4⟩, h5⟩
            · exact .inl ⟨j, h1, h2, .inl ((htk j h1).1 h3)⟩
            · exact .inl ⟨j, h1, h2, .inr ⟨h3, by unfold tk; rw [h4]⟩⟩
            · rw [h5]; exact .inr (by rcases h2 with h2 | h2; exact .inl h2.symm; exact .inr h2)
          · rintro (⟨j, h1, h2, h3⟩ | h3)
            · refine ⟨j, h1, h2, ?_⟩
              rcases h3 with h3 | ⟨h3, h4⟩
              · simp [stepB, (htk j h1).2 h3]
              · have := hoth j h1 h3
                have e : (ev l j).other = (ev l k).task := by unfold tk at h4; omega
                simp [stepB, h3, e]
            · refine ⟨firstGive l (ev l k).cell, hfg, by rcases h3 with h3 | h3; exact .inl h3.symm; exact .inr h3, ?_⟩
              simp [stepB, hg, hgg.1, hgg.2]
        · rw [vmax_get (by rw [hnow.len, hgo.len]), hown]
          have := hgo.hi _ ht; omega
      · rw [if_neg hg]
        refine ⟨hnow.congr fun i hi => ?_, hown⟩
        rw [hlast i hi]
        unfold Kn
        constructor
        · rintro ⟨j, h1, h2, h3⟩
          simp only [stepB, hj, hg, decide_false, Bool.false_and, Bool.or_false, Bool.and_false, Bool.or_eq_true, Bool.and_eq_true, decide_eq_true_eq] at h3
          rcases h3 with h3 | ⟨h3, h4⟩
          · exact ⟨j, h1, h2, .inl ((htk j h1).1 h3)⟩
          · exact ⟨j, h1, h2, .inr ⟨h3, by unfold tk; rw [h4]⟩⟩
        · rintro ⟨j, h1, h2, h3⟩
          refine ⟨j, h1, h2, ?_⟩
          rcases h3 with h3 | ⟨h3, h4⟩
          · simp [stepB, (htk j h1).2 h3]
          · have := hoth j h1 h3
            have e : (ev l j).other = (ev l k).task := by unfold tk at h4; omega
            simp [stepB, h3, e]
  exact key.1.inc hk hF (fun i hi e => hself i hi e) key.2

theorem inv_step {l : List Evt} (hf : ∀ k, k < l.length → FineAt l k) {k : Nat} {s : CS} (hk : k < l.length) (h : Inv l k s) : Inv l (k + 1) (cstep s (ev l k)) := by
  have hF := hf k hk
  have hN := tn_many (l := l) (k := k) (by omega)
  have ht : tk l k < many l := by have := hF.tl; omega
  have hO := inv_own hf hk h
  have hOt : (cown s (ev l k)).getD (tk l k) 0 = cnt l (tk l k) (k + 1) := by
    have h1 := (hO.tell k (by omega)).1 (.inl rfl)
    have h2 := hO.hi _ ht
    unfold ix at h1; omega
  have htl : tk l k < s.now.length := by rw [h.len]; exact ht
  have hln : (cnow s (ev l k)).length = many l := by unfold cnow; dsimp only; split <;> simp [h.len]
  -- what tasks other than the event's, and other than the one it makes, know
  have hother : ∀ t, t < many l → t ≠ tk l k → ¬ ((ev l k).act = sFork ∧ (ev l k).other.toNat = t) → Kno l (k + 1) (Kn l (k + 1) t) (s.now.getD t []) := fun t h1 h2 h3 => by
    refine ((h.now t h1).up hf (m' := k + 1) (by omega) (by omega) (fun i hi => hi.lt)).congr fun i hi => ?_
    unfold Kn
    constructor
    · rintro ⟨j, h4, h5, h6⟩
      refine ⟨j, ?_, h5, h6⟩
      rcases Nat.lt_or_ge j k with h7 | h7
      · exact h7
      · have : j = k := by omega
        subst this
        rcases h6 with h6 | h6
        · exact absurd h6.symm h2
        · exact absurd h6 h3
    · rintro ⟨j, h4, h5, h6⟩; exact ⟨j, by omega, h5, h6⟩
  have hself : Kno l (k + 1) (Kn l (k + 1) (tk l k)) (cown s (ev l k)) := hO.congr fun i hi => by
    unfold Kn
    constructor
    · rintro ⟨j, h4, h5, h6⟩
      rcases Nat.lt_or_ge j k with h7 | h7
      · right
        have hjk : Bef l j k := by
          rcases h6 with h6 | ⟨h6, h8⟩
          · exact Bef.prog h7 hk ((task_eq (hf j (by omega)) hF).2 h6)
          · refine .one ⟨h7, hk, ?_⟩
            have h9 := (hf j (by omega)).fork h6
            have e : (ev l j).other = (ev l k).task := by have := hF.t0; unfold tk at h8; omega
            simp [stepB, h6, e]
        rcases h5 with rfl | h5
        · exact hjk
        · exact h5.trans hjk
      · have : j = k := by omega
        subst this
        rcases h5 with h5 | h5
        · exact .inl h5.symm
        · exact .inr h5
    · rintro (rfl | h5)
      · exact ⟨i, by omega, .inl rfl, .inl rfl⟩
      · exact ⟨k, by omega, .inr h5, .inl rfl⟩
  have hnow : ∀ t, t < many l → Kno l (k + 1) (Kn l (k + 1) t) ((cnow s (ev l k)).getD t []) ∧ ((cnow s (ev l k)).getD t []).getD t 0 = cnt l t (k + 1) := fun t h1 => by
    unfold cnow; dsimp only
    have etk : (ev l k).task.toNat = tk l k := rfl
    rw [etk]
    by_cases hfk : (ev l k).act = sFork
    · rw [if_pos hfk]
      have ho := hF.fork hfk
      have hon : (ev l k).other.toNat = tn l k := by omega
      have honl : tn l k < many l := by have := tn_succ hk; rw [if_pos hfk] at this; have := tn_many (l := l) (k := k + 1) (by omega); omega
      have hne : tn l k ≠ tk l k := by have := hF.tl; omega
      rw [hon]
      rw [set_getL (by simp [h.len]; exact honl), show (s.now.set (tk l k) (cown s (ev l k))).getD (tn l k) [] = s.now.getD (tn l k) [] by rw [set_getL htl]; exact if_neg hne]
      by_cases e : t = tn l k
      · subst e
        rw [if_pos rfl]
        have hno := (h.now _ h1).up hf (m' := k + 1) (by omega) (by omega) (fun i hi => hi.lt)
        have hempty : ∀ i, ¬ Kn l k (tn l k) i := by
          rintro i ⟨j, h4, h5, h6⟩
          have := (hf j (by omega)).tl
          have h8 := tn_le (l := l) (k := j) (m := k) (by omega) (by omega)
          rcases h6 with h6 | ⟨h6, h7⟩
          · omega
          · have h9 := (hf j (by omega)).fork h6
            have := tn_succ (l := l) (k := j) (by omega)
            rw [if_pos h6] at this
            have := tn_le (l := l) (k := j + 1) (m := k) (by omega) (by omega)
            omega
        refine ⟨hno.vmax hO fun i hi => ?_, ?_⟩
        · constructor
          · rintro ⟨j, h4, h5, h6⟩
            rcases Nat.lt_or_ge j k with h7 | h7
            · exact absurd ⟨j, h7, h5, h6⟩ (hempty i)
            · have : j = k := by omega
              subst this
              rcases h5 with h5 | h5
              · exact .inr (.inl h5.symm)
              · exact .inr (.inr h5)
          · rintro (h4 | h4 | h4)
            · exact absurd h4 (hempty i)
            · exact ⟨k, by omega, .inl h4.symm, .inr ⟨hfk, hon⟩⟩
            · exact ⟨k, by omega, .inr h4, .inr ⟨hfk, hon⟩⟩
        · rw [vmax_get (by rw [hno.len, hO.len]), h.own _ h1]
          have := hO.hi _ h1
          have h9 := cnt_succ (u := tn l k) hk
          rw [if_neg (fun h => hne h.symm)] at h9
          omega
      · rw [if_neg e, set_getL htl]
        by_cases e2 : t = tk l k
        · subst e2
          rw [if_pos rfl]
          exact ⟨hself, hOt⟩
        · rw [if_neg e2]
          refine ⟨hother t h1 e2 (fun hh => e (by rw [← hh.2, hon])), ?_⟩
          rw [h.own t h1, cnt_succ hk, if_neg (fun h => e2 h.symm)]; simp
    · rw [if_neg hfk, set_getL htl]
      by_cases e2 : t = tk l k
      · subst e2
        rw [if_pos rfl]
        exact ⟨hself, hOt⟩
      · rw [if_neg e2]
        refine ⟨hother t h1 e2 (fun hh => hfk hh.1), ?_⟩
        rw [h.own t h1, cnt_succ hk, if_neg (fun h => e2 h.symm)]; simp
  have hout : ∀ i, i < k → (s.out ++ [cown s (ev l k)]).getD i [] = s.out.getD i [] := fun i hi => by
    simp only [List.getD_eq_getElem?_getD]
    rw [List.getElem?_append_left (by rw [h.outl]; exact hi)]
  have houtk : (s.out ++ [cown s (ev l k)]).getD k [] = cown s (ev l k) := by
    simp only [List.getD_eq_getElem?_getD]
    rw [List.getElem?_append_right (by rw [h.outl]; exact Nat.le_refl _), h.outl]; simp
  refine ⟨hln, fun t h1 => (hnow t h1).1, fun t h1 => (hnow t h1).2, by simp [cstep, h.outl], fun i hi => ?_, fun c => ?_⟩
  · show Kno l (i + 1) _ ((s.out ++ [cown s (ev l k)]).getD i [])
    rcases Nat.lt_or_ge i k with h1 | h1
    · rw [hout i h1]; exact h.out i h1
    · have : i = k := by omega
      subst this
      rw [houtk]; exact hO
  · show glook (cgiven s (ev l k)) c = if firstGive l c < k + 1 then some ((s.out ++ [cown s (ev l k)]).getD (firstGive l c) []) else none
    have hsame : firstGive l c ≠ k → glook s.given c = if firstGive l c < k + 1 then some ((s.out ++ [cown s (ev l k)]).getD (firstGive l c) []) else none := fun hne => by
      rw [h.giv c]
      by_cases h1 : firstGive l c < k
      · rw [if_pos h1, if_pos (by omega), hout _ h1]
      · rw [if_neg h1, if_neg (by omega)]
    unfold cgiven
    by_cases hg : (ev l k).act = sGive
    · rw [if_pos hg]
      have hle := first_le hk hg
      have hgl := h.giv (ev l k).cell
      by_cases h1 : firstGive l (ev l k).cell < k
      · rw [if_pos h1] at hgl
        rw [hgl]
        dsimp only
        refine hsame fun e => ?_
        have := first_give e hk
        rw [this.2] at h1; omega
      · rw [if_neg h1] at hgl
        rw [hgl]
        dsimp only
        have hk1 : firstGive l (ev l k).cell = k := by omega
        rw [glook_snoc]
        by_cases hc : c = (ev l k).cell
        · subst hc
          rw [hgl, hk1, if_pos rfl, if_pos (by omega), houtk]; rfl
        · rw [if_neg hc, Option.or_none]
          exact hsame fun e => hc (first_give e hk).2.symm
    · rw [if_neg hg]
      exact hsame fun e => hg (first_give e hk).1

theorem inv_all {l : List Evt} (hf : ∀ k, k < l.length → FineAt l k) : ∀ k, k ≤ l.length → Inv l k (cfold l k)
  | 0, _ => inv0 l
  | k + 1, h => by rw [cfold_succ (by omega)]; exact inv_step hf (by omega) (inv_all hf k (by omega))

theorem clks_len {l : List Evt} (hf : ∀ k, k < l.length → FineAt l k) : (clks l).length = l.length := (inv_all hf _ (Nat.le_refl _)).outl
theorem clks_kno {l : List Evt} (hf : ∀ k, k < l.length → FineAt l k) {k : Nat} (hk : k < l.length) : Kno l (k + 1) (fun j => j = k ∨ Bef l j k) ((clks l).getD k []) := (inv_all hf _ (Nat.le_refl _)).out k hk
theorem clks_own {l : List Evt} (hf : ∀ k, k < l.length → FineAt l k) {k : Nat} (hk : k < l.length) : ((clks l).getD k []).getD (tk l k) 0 = ix l k := by
  have h := clks_kno hf hk
  have h1 := (h.tell k (by omega)).1 (.inl rfl)
  have h2 := h.hi (tk l k) (by have := (hf k hk).tl; have := tn_many (l := l) (k := k) (by omega); omega)
  unfold ix at *; omega
/-- The law: an event is before a different one exactly if the clock of that has as many of the former's task. -/
theorem clks_bef {l : List Evt} (hf : ∀ k, k < l.length → FineAt l k) {i k : Nat} (hi : i < l.length) (hk : k < l.length) (hne : i ≠ k) :
    Bef l i k ↔ ((clks l).getD i []).getD (tk l i) 0 ≤ ((clks l).getD k []).getD (tk l i) 0 := by
  rw [clks_own hf hi]
  have h := clks_kno hf hk
  have ht : tk l i < many l := by have := (hf i hi).tl; have := tn_many (l := l) (k := i) (by omega); omega
  rcases Nat.lt_or_ge i k with h1 | h1
  · rw [← h.tell i (by omega)]
    simp [hne]
  · have h2 := h.hi _ ht
    have h3 := ix_gt (l := l) (i := i) (k := k + 1) (by omega) hi
    constructor
    · intro hb; have := hb.lt; omega
    · intro hb; omega
end Ck
