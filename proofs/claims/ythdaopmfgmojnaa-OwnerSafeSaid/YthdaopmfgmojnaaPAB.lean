/-
  A part of the proof of the claim that this folder bears.
-/
import Derived.Test.YthdaopmfgmojnaaPAA
/- The text OLaw1. -/
/-!
  Runs: what variables have, what is alive, what is freed.
-/
set_option linter.unusedVariables false
set_option linter.unusedSimpArgs false
namespace Ow
structure Vr where
  m : Nat
  o : Nat
  deriving DecidableEq
instance : Inhabited Vr := ⟨⟨0, 0⟩⟩
structure Sx where
  vars : List Vr
  alive : List Bool
  count : List Int
  freed : List Nat
  kind : List Nat
def start : Sx := ⟨List.replicate 8 ⟨0, 0⟩, [false], [0], [], [0]⟩
def makesB (a : Str) : Bool := decide (a = sNew) || decide (a = sShare) || decide (a = sRaw)
def fromB (a : Str) : Bool := decide (a = sMove) || decide (a = sCopy) || decide (a = sBorrow)
def vr (s : Sx) (i : Nat) : Vr := s.vars.getD i default
/-- What a deed takes from, or uses. -/
def yv (s : Sx) (d : Deed) : Vr := if fromB d.act then vr s (vi d.src) else vr s (vi d.var)
def wrongS (s : Sx) (d : Deed) : Str :=
  if makesB d.act = true ∧ 20 < s.alive.length then sMany
  else if (makesB d.act = true ∨ fromB d.act = true) ∧ (vr s (vi d.var)).m ≠ 0 then sFull
  else if (fromB d.act = true ∨ d.act = sUse ∨ d.act = sFree) ∧ (yv s d).m = 0 then sEmpty
  else if (d.act = sCopy ∧ (yv s d).m = 1) ∨ (d.act = sFree ∧ (yv s d).m ≠ 4) then sManner
  else if (d.act = sUse ∨ d.act = sFree ∨ d.act = sCopy ∨ d.act = sBorrow) ∧ s.alive.getD (yv s d).o false = false then sGone
  else sNone
def freeS (s : Sx) (o : Nat) : Sx := { s with alive := s.alive.set o false, freed := s.freed ++ [o] }
def putS (s : Sx) (i : Nat) (v : Vr) : Sx := { s with vars := s.vars.set i v }
def dropS (s : Sx) (i : Nat) : Sx :=
  let v := vr s i
  if v.m = 1 then putS (freeS s v.o) i ⟨0, 0⟩
  else if v.m = 2 then
    let s1 := { s with count := s.count.set v.o (s.count.getD v.o 0 - 1) }
    putS (if s.count.getD v.o 0 - 1 = 0 then freeS s1 v.o else s1) i ⟨0, 0⟩
  else putS s i ⟨0, 0⟩
def mannerOf (a : Str) : Nat := if a = sNew then 1 else if a = sShare then 2 else 4
def doS (s : Sx) (d : Deed) : Sx :=
  if makesB d.act = true then ⟨s.vars.set (vi d.var) ⟨mannerOf d.act, s.alive.length⟩, s.alive ++ [true], s.count ++ [1], s.freed, s.kind ++ [mannerOf d.act]⟩
  else if d.act = sMove then putS (putS s (vi d.var) (vr s (vi d.src))) (vi d.src) ⟨0, 0⟩
  else if d.act = sCopy then
    let y := vr s (vi d.src)
    let s1 := putS s (vi d.var) y
    if y.m = 2 then { s1 with count := s.count.set y.o (s.count.getD y.o 0 + 1) } else s1
  else if d.act = sBorrow then putS s (vi d.var) ⟨3, (vr s (vi d.src)).o⟩
  else if d.act = sFree then putS (freeS s (vr s (vi d.var)).o) (vi d.var) ⟨0, 0⟩
  else if d.act = sDrop then dropS s (vi d.var)
  else s

def sharers (s : Sx) (o : Nat) : Nat := s.vars.countP (fun v => decide (v = ⟨2, o⟩))
structure Good (s : Sx) : Prop where
  v8 : s.vars.length = 8
  n1 : 1 ≤ s.alive.length
  n21 : s.alive.length ≤ 21
  cl : s.count.length = s.alive.length
  kl : s.kind.length = s.alive.length
  zero : ∀ i, (vr s i).m = 0 → (vr s i).o = 0
  obj : ∀ i, (vr s i).m ≠ 0 → 1 ≤ (vr s i).o ∧ (vr s i).o < s.alive.length
  own : ∀ i, (vr s i).m = 1 → s.kind.getD (vr s i).o 0 = 1 ∧ s.alive.getD (vr s i).o false = true
  shr : ∀ i, (vr s i).m = 2 → s.kind.getD (vr s i).o 0 = 2
  raw : ∀ i, (vr s i).m = 4 → s.kind.getD (vr s i).o 0 = 4
  four : ∀ i, (vr s i).m ≤ 4
  uniq : ∀ i j, (vr s i).m = 1 → (vr s j).m = 1 → (vr s i).o = (vr s j).o → i = j
  cnt : ∀ o, o < s.alive.length → s.kind.getD o 0 = 2 → s.count.getD o 0 = sharers s o
  aown : ∀ o, o < s.alive.length → s.kind.getD o 0 = 1 → s.alive.getD o false = true → ∃ i, vr s i = ⟨1, o⟩
  ashr : ∀ o, o < s.alive.length → s.kind.getD o 0 = 2 → (s.alive.getD o false = true ↔ 0 < sharers s o)
  fnd : s.freed.Nodup
  fmem : ∀ o, o ∈ s.freed ↔ 1 ≤ o ∧ o < s.alive.length ∧ s.alive.getD o false = false
  kinds : ∀ o, 1 ≤ o → o < s.alive.length → s.kind.getD o 0 = 1 ∨ s.kind.getD o 0 = 2 ∨ s.kind.getD o 0 = 4
  a0 : s.alive.getD 0 false = false
  k0 : s.kind.getD 0 0 = 0

theorem vr_out {s : Sx} {i : Nat} (h : s.vars.length ≤ i) : vr s i = ⟨0, 0⟩ := by
  unfold vr; rw [List.getD_eq_getElem?_getD, List.getElem?_eq_none h]; rfl
theorem vr_get {s : Sx} {i : Nat} (h : i < s.vars.length) : s.vars[i]? = some (vr s i) := by simp [vr, List.getD_eq_getElem?_getD, h]
theorem vr_put {s : Sx} {i j : Nat} {v : Vr} (h : i < s.vars.length) : vr (putS s i v) j = if j = i then v else vr s j := by
  unfold vr putS
  simp only [List.getD_eq_getElem?_getD]
  by_cases e : j = i
  · subst e; simp [h]
  · rw [List.getElem?_set_ne (fun h => e h.symm), if_neg e]
theorem getD_set {α : Type} {l : List α} {i j : Nat} {x d : α} (h : i < l.length) : (l.set i x).getD j d = if j = i then x else l.getD j d := by
  simp only [List.getD_eq_getElem?_getD]
  by_cases e : j = i
  · subst e; simp [h]
  · rw [List.getElem?_set_ne (fun h => e h.symm), if_neg e]
theorem getD_snoc {α : Type} {l : List α} {j : Nat} {x d : α} : (l ++ [x]).getD j d = if j = l.length then x else l.getD j d := by
  simp only [List.getD_eq_getElem?_getD]
  rcases Nat.lt_trichotomy j l.length with h | h | h
  · rw [List.getElem?_append_left h, if_neg (by omega)]
  · subst h; simp
  · rw [List.getElem?_append_right (by omega), if_neg (by omega), List.getElem?_eq_none (l := l) (by omega), List.getElem?_eq_none (by simp; omega)]
theorem sharers_set {vs : List Vr} {i o : Nat} {v : Vr} (h : i < vs.length) : ((vs.set i v).countP (fun v => decide (v = ⟨2, o⟩)) : Int) = (vs.countP (fun v => decide (v = ⟨2, o⟩)) : Int) - (if vs.getD i default = ⟨2, o⟩ then 1 else 0) + (if v = ⟨2, o⟩ then 1 else 0) := by
  rw [List.countP_set h]
  have e : vs.getD i default = vs[i] := by simp [List.getD_eq_getElem?_getD, h]
  rw [e]
  by_cases h1 : vs[i] = ⟨2, o⟩
  · have : 0 < vs.countP (fun v => decide (v = ⟨2, o⟩)) := List.countP_pos_iff.2 ⟨vs[i], List.getElem_mem h, by simp [h1]⟩
    by_cases h2 : v = ⟨2, o⟩ <;> simp [h1, h2] <;> omega
  · by_cases h2 : v = ⟨2, o⟩ <;> simp [h1, h2]
theorem sharers_put {s : Sx} {i o : Nat} {v : Vr} (h : i < s.vars.length) : (sharers (putS s i v) o : Int) = sharers s o - (if vr s i = ⟨2, o⟩ then 1 else 0) + (if v = ⟨2, o⟩ then 1 else 0) := sharers_set h
theorem sharers_pos {s : Sx} {i o : Nat} (h : vr s i = ⟨2, o⟩) : 0 < sharers s o := by
  have hi : i < s.vars.length := by
    rcases Nat.lt_or_ge i s.vars.length with h1 | h1
    · exact h1
    · rw [vr_out h1] at h; cases h
  exact List.countP_pos_iff.2 ⟨_, List.mem_of_getElem? (vr_get hi), by simp [h]⟩
theorem sharers_ex {s : Sx} {o : Nat} (h : 0 < sharers s o) : ∃ i, vr s i = ⟨2, o⟩ := by
  obtain ⟨v, h1, h2⟩ := List.countP_pos_iff.1 h
  obtain ⟨i, hi, e⟩ := List.getElem_of_mem h1
  exact ⟨i, by have h3 := vr_get hi; rw [List.getElem?_eq_getElem hi, e, Option.some.injEq] at h3; rw [← h3]; simpa using h2⟩

theorem good_start : Good start := by
  have hv : ∀ i, vr start i = ⟨0, 0⟩ := fun i => by
    unfold vr start; simp only [List.getD_eq_getElem?_getD, List.getElem?_replicate]; split <;> rfl
  refine ⟨rfl, by decide, by decide, rfl, rfl, fun i h => (by rw [hv]), fun i h => (by rw [hv] at h; exact absurd rfl h), fun i h => (by rw [hv] at h; cases h), fun i h => (by rw [hv] at h; cases h), fun i h => (by rw [hv] at h; cases h), fun i => (by rw [hv]; decide),
    fun i j h => (by rw [hv] at h; cases h), fun o h1 h2 => ?_, fun o h1 h2 => ?_, fun o h1 h2 => ?_, List.nodup_nil, fun o => ?_, fun o h1 h2 => ?_, rfl, rfl⟩
  · have : o = 0 := by simp [start] at h1; omega
    subst this; simp [start] at h2
  · have : o = 0 := by simp [start] at h1; omega
    subst this; simp [start] at h2
  · have : o = 0 := by simp [start] at h1; omega
    subst this; simp [start] at h2
  · simp [start]; omega
  · simp [start] at h2; omega

/-- A variable made empty that owned and shared nothing. -/
theorem good_put0 {s : Sx} (g : Good s) {i : Nat} (hi : i < 8) (h1 : (vr s i).m ≠ 1) (h2 : (vr s i).m ≠ 2) : Good (putS s i ⟨0, 0⟩) := by
  have hl : i < s.vars.length := by rw [g.v8]; exact hi
  have hv : ∀ j, vr (putS s i ⟨0, 0⟩) j = if j = i then ⟨0, 0⟩ else vr s j := fun j => vr_put hl
  have hs : ∀ o, sharers (putS s i ⟨0, 0⟩) o = sharers s o := fun o => by
    have h3 := sharers_put (s := s) (i := i) (o := o) (v := ⟨0, 0⟩) hl
    rw [if_neg (fun e => h2 (by rw [e])), if_neg (by simp)] at h3
    omega
  refine ⟨by simp [putS, g.v8], g.n1, g.n21, g.cl, g.kl, fun j h => ?_, fun j h => ?_, fun j h => ?_, fun j h => ?_, fun j h => ?_, fun j => ?_, fun j k h h' h'' => ?_, fun o h h' => ?_, fun o h h' h'' => ?_, fun o h h' => ?_, g.fnd, g.fmem, g.kinds, g.a0, g.k0⟩
  · rw [hv] at h ⊢; split at h
    · rename_i e; rw [if_pos e]
    · rename_i e; rw [if_neg e]; exact g.zero j h
  · rw [hv] at h ⊢; split at h
    · exact absurd rfl h
    · rename_i e; rw [if_neg e]; exact g.obj j h
  · rw [hv] at h ⊢; split at h
    · cases h
    · rename_i e; rw [if_neg e]; exact g.own j h
  · rw [hv] at h ⊢; split at h
    · cases h
    · rename_i e; rw [if_neg e]; exact g.shr j h
  · rw [hv] at h ⊢; split at h
    · cases h
    · rename_i e; rw [if_neg e]; exact g.raw j h
  · rw [hv]; split
    · decide
    · exact g.four j
  · rw [hv] at h h'' ; rw [hv] at h' h''
    split at h
    · cases h
    · rename_i e
      split at h'
      · cases h'
      · rename_i e'
        rw [if_neg e, if_neg e'] at h''
        exact g.uniq j k h h' h''
  · rw [hs]; exact g.cnt o h h'
  · obtain ⟨j, hj⟩ := g.aown o h h' h''
    refine ⟨j, ?_⟩
    rw [hv, if_neg (fun e => h1 (by rw [← e, hj])), hj]
  · rw [hs]; exact g.ashr o h h'

/-- An empty variable that gets something that is neither owned nor shared. -/
theorem good_put {s : Sx} (g : Good s) {i : Nat} {v : Vr} (hi : i < 8) (h0 : (vr s i).m = 0) (hm : v.m = 3 ∨ v.m = 4) (ho : 1 ≤ v.o ∧ v.o < s.alive.length) (hr : v.m = 4 → s.kind.getD v.o 0 = 4) : Good (putS s i v) := by
  have hl : i < s.vars.length := by rw [g.v8]; exact hi
  have hv : ∀ j, vr (putS s i v) j = if j = i then v else vr s j := fun j => vr_put hl
  have hs : ∀ o, sharers (putS s i v) o = sharers s o := fun o => by
    have h3 := sharers_put (s := s) (i := i) (o := o) (v := v) hl
    rw [if_neg (fun e => by rw [e] at h0; cases h0), if_neg (fun e => by rw [e] at hm; rcases hm with h | h <;> cases h)] at h3
    omega
  refine ⟨by simp [putS, g.v8], g.n1, g.n21, g.cl, g.kl, fun j h => ?_, fun j h => ?_, fun j h => ?_, fun j h => ?_, fun j h => ?_, fun j => ?_, fun j k h h' h'' => ?_, fun o h h' => ?_, fun o h h' h'' => ?_, fun o h h' => ?_, g.fnd, g.fmem, g.kinds, g.a0, g.k0⟩
  · rw [hv] at h ⊢; split at h
    · omega
    · rename_i e; rw [if_neg e]; exact g.zero j h
  · rw [hv] at h ⊢; split at h
    · rename_i e; rw [if_pos e]; exact ho
    · rename_i e; rw [if_neg e]; exact g.obj j h
  · rw [hv] at h ⊢; split at h
    · omega
    · rename_i e; rw [if_neg e]; exact g.own j h
  · rw [hv] at h ⊢; split at h
    · omega
    · rename_i e; rw [if_neg e]; exact g.shr j h
  · rw [hv] at h ⊢; split at h
    · rename_i e; rw [if_pos e]; exact hr h
    · rename_i e; rw [if_neg e]; exact g.raw j h
  · rw [hv]; split
    · omega
    · exact g.four j
  · rw [hv] at h h'' ; rw [hv] at h' h''
    split at h
    · omega
    · rename_i e
      split at h'
      · omega
      · rename_i e'
        rw [if_neg e, if_neg e'] at h''
        exact g.uniq j k h h' h''
  · rw [hs]; exact g.cnt o h h'
  · obtain ⟨j, hj⟩ := g.aown o h h' h''
    refine ⟨j, ?_⟩
    rw [hv, if_neg (fun e => by rw [← e, hj] at h0; cases h0), hj]
  · rw [hs]; exact g.ashr o h h'

theorem free_mem {s : Sx} (g : Good s) {o : Nat} (h1 : 1 ≤ o) (h2 : o < s.alive.length) (ha : s.alive.getD o false = true) : (s.freed ++ [o]).Nodup ∧ ∀ p, p ∈ s.freed ++ [o] ↔ 1 ≤ p ∧ p < (s.alive.set o false).length ∧ (s.alive.set o false).getD p false = false := by
  have hno : o ∉ s.freed := fun h => by rw [((g.fmem o).1 h).2.2] at ha; cases ha
  refine ⟨List.nodup_append.2 ⟨g.fnd, by simp, fun x hx y hy => ?_⟩, fun p => ?_⟩
  · simp at hy; subst hy; intro e; subst e; exact hno hx
  · rw [List.mem_append, g.fmem p, getD_set h2]
    simp only [List.mem_singleton, List.length_set]
    by_cases e : p = o
    · subst e; simp [h1, h2]
    · simp [e]

/-- A raw object freed, or an owned one together with its owner. -/
theorem good_free {s : Sx} (g : Good s) {i o : Nat} (hi : i < 8) (hv0 : vr s i = ⟨1, o⟩ ∨ vr s i = ⟨4, o⟩ ) (ha : s.alive.getD o false = true) : Good (putS (freeS s o) i ⟨0, 0⟩) := by
  have hl : i < s.vars.length := by rw [g.v8]; exact hi
  have hl2 : i < (freeS s o).vars.length := hl
  have hob : 1 ≤ o ∧ o < s.alive.length := by have := g.obj i (by rcases hv0 with h | h <;> rw [h] <;> simp); rcases hv0 with h | h <;> rw [h] at this <;> exact this
  have hko : s.kind.getD o 0 = 1 ∧ vr s i = ⟨1, o⟩ ∨ s.kind.getD o 0 = 4 := by
    rcases hv0 with h | h
    · left; have := (g.own i (by rw [h])).1; rw [h] at this; exact ⟨this, h⟩
    · right; have := g.raw i (by rw [h]); rw [h] at this; exact this
  have hv : ∀ j, vr (putS (freeS s o) i ⟨0, 0⟩) j = if j = i then ⟨0, 0⟩ else vr s j := fun j => vr_put hl2
  have hs : ∀ p, sharers (putS (freeS s o) i ⟨0, 0⟩) p = sharers s p := fun p => by
    have h3 := sharers_put (s := freeS s o) (i := i) (o := p) (v := ⟨0, 0⟩) hl2
    rw [if_neg (fun e => by have e' : vr s i = ⟨2, p⟩ := e; rcases hv0 with h | h <;> rw [h] at e' <;> cases e'), if_neg (by simp)] at h3
    have : sharers (freeS s o) p = sharers s p := rfl
    omega
  obtain ⟨hf1, hf2⟩ := free_mem g hob.1 hob.2 ha
  have hal : ∀ p, (putS (freeS s o) i ⟨0, 0⟩).alive.getD p false = if p = o then false else s.alive.getD p false := fun p => getD_set hob.2
  have hlen : (putS (freeS s o) i ⟨0, 0⟩).alive.length = s.alive.length := by simp [putS, freeS]
  refine ⟨by simp [putS, freeS, g.v8], by rw [hlen]; exact g.n1, by rw [hlen]; exact g.n21, by rw [hlen]; exact g.cl, by rw [hlen]; exact g.kl, fun j h => ?_, fun j h => ?_, fun j h => ?_, fun j h => ?_, fun j h => ?_, fun j => ?_, fun j k h h' h'' => ?_, fun p h h' => ?_, fun p h h' h'' => ?_, fun p h h' => ?_, hf1, hf2, fun p h h' => g.kinds p h (by rw [← hlen]; exact h'), ?_, g.k0⟩
  · rw [hv] at h ⊢; split at h
    · rename_i e; rw [if_pos e]
    · rename_i e; rw [if_neg e]; exact g.zero j h
  · rw [hv] at h ⊢; split at h
    · exact absurd rfl h
    · rename_i e; rw [if_neg e, hlen]; exact g.obj j h
  · rw [hv] at h ⊢; split at h
    · cases h
    · rename_i e; rw [if_neg e, hal]
      obtain ⟨k1, k2⟩ := g.own j h
      refine ⟨k1, ?_⟩
      rw [if_neg (fun e2 => ?_)]
      · exact k2
      · rw [e2] at k1
        rcases hko with ⟨h4, h5⟩ | h4
        · exact e (g.uniq j i h (by rw [h5]) (by rw [h5]; exact e2))
        · rw [h4] at k1; cases k1
  · rw [hv] at h ⊢; split at h
    · cases h
    · rename_i e; rw [if_neg e]; exact g.shr j h
  · rw [hv] at h ⊢; split at h
    · cases h
    · rename_i e; rw [if_neg e]; exact g.raw j h
  · rw [hv]; split
    · decide
    · exact g.four j
  · rw [hv] at h h'' ; rw [hv] at h' h''
    split at h
    · cases h
    · rename_i e
      split at h'
      · cases h'
      · rename_i e'
        rw [if_neg e, if_neg e'] at h''
        exact g.uniq j k h h' h''
  · rw [hs]; exact g.cnt p (by rw [← hlen]; exact h) h'
  · rw [hal] at h''
    split at h''
    · cases h''
    · rename_i e
      obtain ⟨j, hj⟩ := g.aown p (by rw [← hlen]; exact h) h' h''
      refine ⟨j, ?_⟩
      rw [hv, if_neg (fun e2 => by rw [e2] at hj; rcases hv0 with h4 | h4 <;> rw [h4] at hj <;> simp at hj; exact e hj.symm), hj]
  · rw [hs, hal, if_neg (fun e => by subst e; rcases hko with ⟨h4, _⟩ | h4 <;> (have h5 : s.kind.getD p 0 = 2 := h'; rw [h4] at h5; cases h5))]
    exact g.ashr p (by rw [← hlen]; exact h) h'
  · rw [hal, if_neg (by omega)]; exact g.a0

theorem good_drop {s : Sx} (g : Good s) {i : Nat} (hi : i < 8) : Good (dropS s i) := by
  unfold dropS
  dsimp only
  by_cases h1 : (vr s i).m = 1
  · rw [if_pos h1]
    exact good_free g hi (.inl (by rw [← h1])) (g.own i h1).2
  rw [if_neg h1]
  by_cases h2 : (vr s i).m = 2
  · rw [if_pos h2]
    have hl : i < s.vars.length := by rw [g.v8]; exact hi
    obtain ⟨o, ho⟩ : ∃ o, vr s i = ⟨2, o⟩ := ⟨(vr s i).o, by rw [← h2]⟩
    rw [ho]
    dsimp only
    have hob : 1 ≤ o ∧ o < s.alive.length := by have := g.obj i (by rw [ho]; simp); rw [ho] at this; exact this
    have hko : s.kind.getD o 0 = 2 := by have := g.shr i h2; rw [ho] at this; exact this
    have hc := g.cnt o hob.2 hko
    have hoc : o < s.count.length := by rw [g.cl]; exact hob.2
    have hpos := sharers_pos ho
    have hal := (g.ashr o hob.2 hko).2 hpos
    obtain ⟨hf1, hf2⟩ := free_mem g hob.1 hob.2 hal
    -- both ways at once
    have key : ∀ (s2 : Sx), s2.vars = s.vars → s2.count = s.count.set o (s.count.getD o 0 - 1) → s2.kind = s.kind →
        ((s.count.getD o 0 - 1 = 0 ∧ s2.alive = s.alive.set o false ∧ s2.freed = s.freed ++ [o]) ∨ (s.count.getD o 0 - 1 ≠ 0 ∧ s2.alive = s.alive ∧ s2.freed = s.freed)) → Good (putS s2 i ⟨0, 0⟩) := by
      intro s2 e1 e2 e3 e4
      have hl2 : i < s2.vars.length := by rw [e1]; exact hl
      have hvs : ∀ j, vr s2 j = vr s j := fun j => by unfold vr; rw [e1]
      have hv : ∀ j, vr (putS s2 i ⟨0, 0⟩) j = if j = i then ⟨0, 0⟩ else vr s j := fun j => by rw [vr_put hl2, hvs]
      have hs : ∀ p, (sharers (putS s2 i ⟨0, 0⟩) p : Int) = sharers s p - if p = o then 1 else 0 := fun p => by
        have h3 := sharers_put (s := s2) (i := i) (o := p) (v := ⟨0, 0⟩) hl2
        rw [hvs, ho, if_neg (show ¬ (⟨0, 0⟩ : Vr) = ⟨2, p⟩ by simp)] at h3
        have h5 : sharers s2 p = sharers s p := by unfold sharers; rw [e1]
        rw [h3, h5]
        by_cases e : p = o
        · subst e; simp
        · rw [if_neg e, if_neg (by simp; omega)]; omega
      have hlen : s2.alive.length = s.alive.length := by rcases e4 with ⟨_, e5, _⟩ | ⟨_, e5, _⟩ <;> rw [e5] <;> simp
      have ha : ∀ p, s2.alive.getD p false = if p = o ∧ s.count.getD o 0 - 1 = 0 then false else s.alive.getD p false := fun p => by
        rcases e4 with ⟨e0, e5, _⟩ | ⟨e0, e5, _⟩
        · rw [e5, getD_set hob.2]
          by_cases e : p = o
          · rw [if_pos e, if_pos ⟨e, e0⟩]
          · rw [if_neg e, if_neg (fun h => e h.1)]
        · rw [e5, if_neg (fun h => e0 h.2)]
      refine ⟨by simp [putS, e1, g.v8], by show 1 ≤ s2.alive.length; rw [hlen]; exact g.n1, by show s2.alive.length ≤ 21; rw [hlen]; exact g.n21, by show s2.count.length = s2.alive.length; rw [hlen, e2]; simp [g.cl], by show s2.kind.length = s2.alive.length; rw [hlen, e3]; exact g.kl,
        fun j h => ?_, fun j h => ?_, fun j h => ?_, fun j h => ?_, fun j h => ?_, fun j => ?_, fun j k h h' h'' => ?_, fun p h h' => ?_, fun p h h' h'' => ?_, fun p h h' => ?_, ?_, fun p => ?_, fun p h h' => ?_, ?_, ?_⟩
      · rw [hv] at h ⊢; split at h
        · rename_i e; rw [if_pos e]
        · rename_i e; rw [if_neg e]; exact g.zero j h
      · show 1 ≤ _ ∧ _ < s2.alive.length
        rw [hv] at h ⊢; split at h
        · exact absurd rfl h
        · rename_i e; rw [if_neg e, hlen]; exact g.obj j h
      · show s2.kind.getD _ 0 = 1 ∧ s2.alive.getD _ false = true
        rw [hv] at h ⊢; split at h
        · cases h
        · rename_i e; rw [if_neg e, e3, ha]
          obtain ⟨k1, k2⟩ := g.own j h
          refine ⟨k1, ?_⟩
          rw [if_neg (fun h5 => by rw [h5.1, hko] at k1; cases k1)]; exact k2
      · show s2.kind.getD _ 0 = 2
        rw [hv] at h ⊢; split at h
        · cases h
        · rename_i e; rw [if_neg e, e3]; exact g.shr j h
      · show s2.kind.getD _ 0 = 4
        rw [hv] at h ⊢; split at h
        · cases h
        · rename_i e; rw [if_neg e, e3]; exact g.raw j h
      · rw [hv]; split
        · decide
        · exact g.four j
      · rw [hv] at h h'' ; rw [hv] at h' h''
        split at h
        · cases h
        · rename_i e
          split at h'
          · cases h'
          · rename_i e'
            rw [if_neg e, if_neg e'] at h''
            exact g.uniq j k h h' h''
      · show s2.count.getD p 0 = _
        have h3 : s.kind.getD p 0 = 2 := by rw [← e3]; exact h'
        have h4 : p < s.alive.length := by rw [← hlen]; exact h
        have h5 := g.cnt p h4 h3
        rw [e2, getD_set hoc, hs]
        by_cases e : p = o
        · subst e; rw [if_pos rfl, if_pos rfl]; omega
        · rw [if_neg e, if_neg e]; omega
      · have h3 : s.kind.getD p 0 = 1 := by rw [← e3]; exact h'
        have h4 : p < s.alive.length := by rw [← hlen]; exact h
        have h5 : s2.alive.getD p false = true := h''
        rw [ha] at h5
        split at h5
        · cases h5
        · obtain ⟨j, hj⟩ := g.aown p h4 h3 h5
          refine ⟨j, ?_⟩
          rw [hv, if_neg (fun e2 => by rw [e2, ho] at hj; cases hj), hj]
      · show s2.alive.getD p false = true ↔ _
        have h3 : s.kind.getD p 0 = 2 := by rw [← e3]; exact h'
        have h4 : p < s.alive.length := by rw [← hlen]; exact h
        have h5 := g.ashr p h4 h3
        have h6 := hs p
        rw [ha]
        by_cases e : p = o
        · subst e
          rw [if_pos rfl] at h6
          by_cases e0 : s.count.getD p 0 - 1 = 0
          · rw [if_pos ⟨rfl, e0⟩]
            constructor
            · intro h; cases h
            · intro h; omega
          · rw [if_neg (fun h => e0 h.2), hal]
            constructor
            · intro _; omega
            · intro _; rfl
        · rw [if_neg e] at h6
          rw [if_neg (fun h => e h.1), h5]; omega
      · show s2.freed.Nodup
        rcases e4 with ⟨_, _, e5⟩ | ⟨_, _, e5⟩ <;> rw [e5]
        · exact hf1
        · exact g.fnd
      · show p ∈ s2.freed ↔ 1 ≤ p ∧ p < s2.alive.length ∧ s2.alive.getD p false = false
        rcases e4 with ⟨_, e6, e5⟩ | ⟨_, e6, e5⟩ <;> rw [e5, e6]
        · exact hf2 p
        · exact g.fmem p
      · show s2.kind.getD p 0 = 1 ∨ s2.kind.getD p 0 = 2 ∨ s2.kind.getD p 0 = 4
        rw [e3]; exact g.kinds p h (by rw [← hlen]; exact h')
      · show s2.alive.getD 0 false = false
        rw [ha]; split
        · rfl
        · exact g.a0
      · show s2.kind.getD 0 0 = 0
        rw [e3]; exact g.k0
    split
    · rename_i e
      exact key _ rfl rfl rfl (.inl ⟨e, rfl, rfl⟩)
    · rename_i e
      exact key _ rfl rfl rfl (.inr ⟨e, rfl, rfl⟩)
  rw [if_neg h2]
  exact good_put0 g hi h1 h2
end Ow

/- The text OLaw2. -/
set_option linter.unusedVariables false
set_option linter.unusedSimpArgs false
namespace Ow
theorem rs_ne : ¬ sMany = sNone ∧ ¬ sFull = sNone ∧ ¬ sEmpty = sNone ∧ ¬ sManner = sNone ∧ ¬ sGone = sNone := by decide
structure Right (s : Sx) (d : Deed) : Prop where
  w1 : makesB d.act = true → s.alive.length ≤ 20
  w2 : makesB d.act = true ∨ fromB d.act = true → (vr s (vi d.var)).m = 0
  w3 : fromB d.act = true ∨ d.act = sUse ∨ d.act = sFree → (yv s d).m ≠ 0
  w4 : d.act = sCopy → (yv s d).m ≠ 1
  w5 : d.act = sFree → (yv s d).m = 4
  w6 : d.act = sUse ∨ d.act = sFree ∨ d.act = sCopy ∨ d.act = sBorrow → s.alive.getD (yv s d).o false = true
theorem wrong_none {s : Sx} {d : Deed} (h : wrongS s d = sNone) : Right s d := by
  unfold wrongS at h
  split at h
  · exact absurd h rs_ne.1
  rename_i h1
  split at h
  · exact absurd h rs_ne.2.1
  rename_i h2
  split at h
  · exact absurd h rs_ne.2.2.1
  rename_i h3
  split at h
  · exact absurd h rs_ne.2.2.2.1
  rename_i h4
  split at h
  · exact absurd h rs_ne.2.2.2.2
  rename_i h5
  refine ⟨fun h => ?_, fun h => ?_, fun h => ?_, fun h h' => ?_, fun h => ?_, fun h => ?_⟩
  · by_cases hh : s.alive.length ≤ 20
    · exact hh
    · exact absurd ⟨h, by omega⟩ h1
  · by_cases hh : (vr s (vi d.var)).m = 0
    · exact hh
    · exact absurd ⟨h, hh⟩ h2
  · intro hh; exact h3 ⟨h, hh⟩
  · exact h4 (.inl ⟨h, h'⟩)
  · by_cases hh : (yv s d).m = 4
    · exact hh
    · exact absurd (.inr ⟨h, hh⟩) h4
  · cases hh : s.alive.getD (yv s d).o false with
    | true => rfl
    | false => exact absurd ⟨h, hh⟩ h5

theorem good_make {s : Sx} (g : Good s) {i k : Nat} (hi : i < 8) (h0 : (vr s i).m = 0) (hk : k = 1 ∨ k = 2 ∨ k = 4) (hn : s.alive.length ≤ 20) :
    Good ⟨s.vars.set i ⟨k, s.alive.length⟩, s.alive ++ [true], s.count ++ [1], s.freed, s.kind ++ [k]⟩ := by
  have hl : i < s.vars.length := by rw [g.v8]; exact hi
  generalize hn0 : s.alive.length = n at *
  have hv : ∀ j, vr ⟨s.vars.set i ⟨k, n⟩, s.alive ++ [true], s.count ++ [1], s.freed, s.kind ++ [k]⟩ j = if j = i then ⟨k, n⟩ else vr s j := fun j => by unfold vr; exact getD_set hl
  have hkd : ∀ p, (s.kind ++ [k]).getD p 0 = if p = n then k else s.kind.getD p 0 := fun p => by rw [getD_snoc, g.kl, hn0]
  have had : ∀ p, (s.alive ++ [true]).getD p false = if p = n then true else s.alive.getD p false := fun p => by rw [getD_snoc, hn0]
  have hcd : ∀ p, (s.count ++ [1]).getD p 0 = if p = n then 1 else s.count.getD p 0 := fun p => by rw [getD_snoc, g.cl, hn0]
  have hs : ∀ p, (sharers ⟨s.vars.set i ⟨k, n⟩, s.alive ++ [true], s.count ++ [1], s.freed, s.kind ++ [k]⟩ p : Int) = sharers s p + if k = 2 ∧ p = n then 1 else 0 := fun p => by
    have h3 := sharers_set (vs := s.vars) (i := i) (o := p) (v := ⟨k, n⟩) hl
    rw [if_neg (fun e => by have e' : vr s i = ⟨2, p⟩ := e; rw [e'] at h0; cases h0)] at h3
    unfold sharers
    dsimp only
    rw [h3]
    by_cases e : k = 2 ∧ p = n
    · rw [if_pos e, if_pos (by rw [e.1, e.2])]; omega
    · rw [if_neg e, if_neg (fun h => e (by injection h with h1 h2; exact ⟨h1, h2.symm⟩))]; omega
  have hnone : sharers s n = 0 := by
    rcases Nat.eq_zero_or_pos (sharers s n) with h | h
    · exact h
    · obtain ⟨j, hj⟩ := sharers_ex h
      have := g.obj j (by rw [hj]; simp)
      rw [hj, hn0] at this; simp at this
  have hlen : (s.alive ++ [true]).length = n + 1 := by simp [hn0]
  have hlt : ∀ j, (vr s j).m ≠ 0 → (vr s j).o ≠ n := fun j h e => by have := (g.obj j h).2; rw [hn0] at this; omega
  refine ⟨by simp [g.v8], by rw [hlen]; omega, by rw [hlen]; omega, by simp [g.cl], by simp [g.kl], fun j h => ?_, fun j h => ?_, fun j h => ?_, fun j h => ?_, fun j h => ?_, fun j => ?_, fun j q h h' h'' => ?_, fun p h h' => ?_, fun p h h' h'' => ?_, fun p h h' => ?_, g.fnd, fun p => ?_, fun p h h' => ?_, ?_, ?_⟩
  · rw [hv] at h ⊢; split at h
    · simp only at h; omega
    · rename_i e; rw [if_neg e]; exact g.zero j h
  · rw [hv] at h ⊢; split at h
    · rename_i e; rw [if_pos e]; dsimp only; rw [hlen]; have := g.n1; omega
    · rename_i e; rw [if_neg e]; dsimp only; rw [hlen]; have := g.obj j h; omega
  · dsimp only
    rw [hv] at h ⊢; split at h
    · rename_i e; rw [if_pos e, hkd, had, if_pos rfl, if_pos rfl]; exact ⟨h, rfl⟩
    · rename_i e; rw [if_neg e, hkd, had, if_neg (hlt j (by omega)), if_neg (hlt j (by omega))]; exact g.own j h
  · dsimp only
    rw [hv] at h ⊢; split at h
    · rename_i e; rw [if_pos e, hkd, if_pos rfl]; exact h
    · rename_i e; rw [if_neg e, hkd, if_neg (hlt j (by omega))]; exact g.shr j h
  · dsimp only
    rw [hv] at h ⊢; split at h
    · rename_i e; rw [if_pos e, hkd, if_pos rfl]; exact h
    · rename_i e; rw [if_neg e, hkd, if_neg (hlt j (by omega))]; exact g.raw j h
  · rw [hv]; split
    · dsimp only; omega
    · exact g.four j
  · rw [hv] at h h'' ; rw [hv] at h' h''
    split at h
    · rename_i e
      split at h'
      · rename_i e'; rw [e, e']
      · rename_i e'
        rw [if_pos e, if_neg e'] at h''
        exact absurd h''.symm (hlt q (by omega))
    · rename_i e
      split at h'
      · rename_i e'
        rw [if_neg e, if_pos e'] at h''
        exact absurd h'' (hlt j (by omega))
      · rename_i e'
        rw [if_neg e, if_neg e'] at h''
        exact g.uniq j q h h' h''
  · dsimp only at h h' ⊢
    rw [hkd] at h'
    rw [hcd, hs]
    rw [hlen] at h
    by_cases e : p = n
    · subst e
      rw [if_pos rfl] at h'
      rw [if_pos rfl, if_pos ⟨h', rfl⟩, hnone]; rfl
    · rw [if_neg e] at h'
      rw [if_neg e, if_neg (fun h => e h.2), g.cnt p (by omega) h']; omega
  · dsimp only at h h' h''
    rw [hkd] at h'; rw [had] at h''
    rw [hlen] at h
    by_cases e : p = n
    · subst e
      rw [if_pos rfl] at h'
      exact ⟨i, by rw [hv, if_pos rfl, h']⟩
    · rw [if_neg e] at h' h''
      obtain ⟨j, hj⟩ := g.aown p (by omega) h' h''
      exact ⟨j, by rw [hv, if_neg (fun e2 => by rw [e2] at hj; rw [hj] at h0; cases h0), hj]⟩
  · dsimp only at h h' ⊢
    rw [hkd] at h'; rw [had]
    have h6 := hs p
    rw [hlen] at h
    by_cases e : p = n
    · subst e
      rw [if_pos rfl] at h'
      rw [if_pos ⟨h', rfl⟩] at h6
      rw [if_pos rfl]
      constructor
      · intro _; omega
      · intro _; rfl
    · rw [if_neg e] at h'
      rw [if_neg (fun h => e h.2)] at h6
      rw [if_neg e, g.ashr p (by omega) h']; omega
  · dsimp only
    rw [g.fmem p, had, hlen, hn0]
    by_cases e : p = n
    · subst e; simp
    · rw [if_neg e]
      constructor
      · rintro ⟨h1, h2, h3⟩; exact ⟨h1, by omega, h3⟩
      · rintro ⟨h1, h2, h3⟩; exact ⟨h1, by omega, h3⟩
  · dsimp only at h' ⊢
    rw [hkd]
    rw [hlen] at h'
    split
    · exact hk
    · exact g.kinds p h (by omega)
  · dsimp only
    rw [had, if_neg (by have := g.n1; omega)]; exact g.a0
  · dsimp only
    rw [hkd, if_neg (by have := g.n1; omega)]; exact g.k0

theorem good_move {s : Sx} (g : Good s) {i j : Nat} (hi : i < 8) (hj : j < 8) (h0 : (vr s i).m = 0) (h1 : (vr s j).m ≠ 0) : Good (putS (putS s i (vr s j)) j ⟨0, 0⟩) := by
  have hij : i ≠ j := fun e => h1 (by rw [← e]; exact h0)
  have hl : i < s.vars.length := by rw [g.v8]; exact hi
  have hl2 : j < (putS s i (vr s j)).vars.length := by simp [putS, g.v8]; exact hj
  have hv : ∀ q, vr (putS (putS s i (vr s j)) j ⟨0, 0⟩) q = if q = j then ⟨0, 0⟩ else if q = i then vr s j else vr s q := fun q => by rw [vr_put hl2, vr_put hl]
  have hs : ∀ p, sharers (putS (putS s i (vr s j)) j ⟨0, 0⟩) p = sharers s p := fun p => by
    have h3 := sharers_put (s := putS s i (vr s j)) (i := j) (o := p) (v := ⟨0, 0⟩) hl2
    have h4 := sharers_put (s := s) (i := i) (o := p) (v := vr s j) hl
    have e3 : vr (putS s i (vr s j)) j = vr s j := by rw [vr_put hl, if_neg (fun e => hij e.symm)]
    rw [e3] at h3
    rw [if_neg (fun e => by rw [e] at h0; cases h0)] at h4
    rw [if_neg (show ¬ (⟨0, 0⟩ : Vr) = ⟨2, p⟩ by simp)] at h3
    split at h3 <;> split at h4 <;> first | omega | contradiction
  -- who has what: the same, at another place
  have hto : ∀ q, (vr (putS (putS s i (vr s j)) j ⟨0, 0⟩) q).m ≠ 0 → ∃ q', vr (putS (putS s i (vr s j)) j ⟨0, 0⟩) q = vr s q' ∧ (q = i → q' = j) ∧ (q ≠ i → q' = q) ∧ q ≠ j := fun q h => by
    rw [hv] at h ⊢
    by_cases e : q = j
    · rw [if_pos e] at h; exact absurd rfl h
    · rw [if_neg e]
      by_cases e2 : q = i
      · exact ⟨j, by rw [if_pos e2], fun _ => rfl, fun h => absurd e2 h, e⟩
      · exact ⟨q, by rw [if_neg e2], fun h => absurd h e2, fun _ => rfl, e⟩
  refine ⟨by simp [putS, g.v8], g.n1, g.n21, g.cl, g.kl, fun q h => ?_, fun q h => ?_, fun q h => ?_, fun q h => ?_, fun q h => ?_, fun q => ?_, fun q r h h' h'' => ?_, fun o h h' => ?_, fun o h h' h'' => ?_, fun o h h' => ?_, g.fnd, g.fmem, g.kinds, g.a0, g.k0⟩
  · rw [hv] at h ⊢; split at h
    · rename_i e; rw [if_pos e]
    · rename_i e; rw [if_neg e]
      split at h
      · rename_i e2; rw [if_pos e2]; exact absurd h h1
      · rename_i e2; rw [if_neg e2]; exact g.zero q h
  · obtain ⟨q', e, _⟩ := hto q h; rw [e] at h ⊢; exact g.obj q' h
  · obtain ⟨q', e, _⟩ := hto q (by omega); rw [e] at h ⊢; exact g.own q' h
  · obtain ⟨q', e, _⟩ := hto q (by omega); rw [e] at h ⊢; exact g.shr q' h
  · obtain ⟨q', e, _⟩ := hto q (by omega); rw [e] at h ⊢; exact g.raw q' h
  · rw [hv]; split
    · decide
    · split
      · exact g.four j
      · exact g.four q
  · obtain ⟨q', e, k1, k2, k3⟩ := hto q (by omega)
    obtain ⟨r', e', m1, m2, m3⟩ := hto r (by omega)
    rw [e] at h h''; rw [e'] at h' h''
    have := g.uniq q' r' h h' h''
    by_cases a : q = i <;> by_cases b : r = i
    · rw [a, b]
    · have := k1 a; have := m2 b; omega
    · have := k2 a; have := m1 b; omega
    · have := k2 a; have := m2 b; omega
  · rw [hs]; exact g.cnt o h h'
  · obtain ⟨q, hq⟩ := g.aown o h h' h''
    by_cases e : q = j
    · refine ⟨i, ?_⟩; rw [hv, if_neg hij, if_pos rfl, ← e]; exact hq
    · refine ⟨q, ?_⟩
      rw [hv, if_neg e, if_neg (fun e2 => by rw [e2] at hq; rw [hq] at h0; cases h0), hq]
  · rw [hs]; exact g.ashr o h h'

theorem good_share {s : Sx} (g : Good s) {i o : Nat} (hi : i < 8) (h0 : (vr s i).m = 0) (hko : s.kind.getD o 0 = 2) (hob : 1 ≤ o ∧ o < s.alive.length) (hal : s.alive.getD o false = true) :
    Good { putS s i ⟨2, o⟩ with count := s.count.set o (s.count.getD o 0 + 1) } := by
  have hl : i < s.vars.length := by rw [g.v8]; exact hi
  have hoc : o < s.count.length := by rw [g.cl]; exact hob.2
  have hv : ∀ j, vr { putS s i ⟨2, o⟩ with count := s.count.set o (s.count.getD o 0 + 1) } j = if j = i then ⟨2, o⟩ else vr s j := fun j => vr_put hl
  have hs : ∀ p, (sharers { putS s i ⟨2, o⟩ with count := s.count.set o (s.count.getD o 0 + 1) } p : Int) = sharers s p + if p = o then 1 else 0 := fun p => by
    have h3 := sharers_put (s := s) (i := i) (o := p) (v := ⟨2, o⟩) hl
    rw [if_neg (fun e => by rw [e] at h0; cases h0)] at h3
    have h4 : sharers { putS s i ⟨2, o⟩ with count := s.count.set o (s.count.getD o 0 + 1) } p = sharers (putS s i ⟨2, o⟩) p := rfl
    rw [h4, h3]
    by_cases e : p = o
    · rw [if_pos e, if_pos (by rw [e])]; omega
    · rw [if_neg e, if_neg (by simp; omega)]; omega
  refine ⟨by simp [putS, g.v8], g.n1, g.n21, by simp [putS, g.cl], g.kl, fun j h => ?_, fun j h => ?_, fun j h => ?_, fun j h => ?_, fun j h => ?_, fun j => ?_, fun j k h h' h'' => ?_, fun p h h' => ?_, fun p h h' h'' => ?_, fun p h h' => ?_, g.fnd, g.fmem, g.kinds, g.a0, g.k0⟩
  · rw [hv] at h ⊢; split at h
    · cases h
    · rename_i e; rw [if_neg e]; exact g.zero j h
  · rw [hv] at h ⊢; split at h
    · rename_i e; rw [if_pos e]; exact hob
    · rename_i e; rw [if_neg e]; exact g.obj j h
  · rw [hv] at h ⊢; split at h
    · cases h
    · rename_i e; rw [if_neg e]; exact g.own j h
  · rw [hv] at h ⊢; split at h
    · rename_i e; rw [if_pos e]; exact hko
    · rename_i e; rw [if_neg e]; exact g.shr j h
  · rw [hv] at h ⊢; split at h
    · cases h
    · rename_i e; rw [if_neg e]; exact g.raw j h
  · rw [hv]; split
    · show 2 ≤ 4; omega
    · exact g.four j
  · rw [hv] at h h'' ; rw [hv] at h' h''
    split at h
    · cases h
    · rename_i e
      split at h'
      · cases h'
      · rename_i e'
        rw [if_neg e, if_neg e'] at h''
        exact g.uniq j k h h' h''
  · have h5 := g.cnt p h h'
    rw [hs]
    dsimp only
    rw [getD_set hoc]
    by_cases e : p = o
    · subst e; rw [if_pos rfl, if_pos rfl, h5]
    · rw [if_neg e, if_neg e, h5]; omega
  · obtain ⟨j, hj⟩ := g.aown p h h' h''
    exact ⟨j, by rw [hv, if_neg (fun e => by rw [e] at hj; rw [hj] at h0; cases h0), hj]⟩
  · have h5 := g.ashr p h h'
    have h6 := hs p
    show s.alive.getD p false = true ↔ _
    by_cases e : p = o
    · subst e
      rw [if_pos rfl] at h6
      rw [hal]
      constructor
      · intro _; omega
      · intro _; rfl
    · rw [if_neg e] at h6
      rw [h5]; omega

def plainAct (a : Str) : Prop := makesB a = true ∨ fromB a = true ∨ a = sUse ∨ a = sFree ∨ a = sDrop
theorem mk_from {a : Str} (h : makesB a = true) : fromB a = false := by
  unfold makesB at h; unfold fromB
  simp only [Bool.or_eq_true, decide_eq_true_eq] at h
  rcases h with (h | h) | h <;> subst h <;> decide
theorem good_do {s : Sx} (g : Good s) {d : Deed} (hi : vi d.var < 8) (hj : fromB d.act = true → vi d.src < 8) (hr : Right s d) : Good (doS s d) := by
  unfold doS
  by_cases hm : makesB d.act = true
  · rw [if_pos hm]
    refine good_make g hi (hr.w2 (.inl hm)) ?_ (hr.w1 hm)
    unfold mannerOf; split
    · exact .inl rfl
    · split
      · exact .inr (.inl rfl)
      · exact .inr (.inr rfl)
  rw [if_neg hm]
  by_cases h1 : d.act = sMove
  · rw [if_pos h1]
    have hf : fromB d.act = true := by rw [h1]; decide
    have h3 := hr.w3 (.inl hf)
    unfold yv at h3; rw [if_pos hf] at h3
    exact good_move g hi (hj hf) (hr.w2 (.inr hf)) h3
  rw [if_neg h1]
  by_cases h2 : d.act = sCopy
  · rw [if_pos h2]
    have hf : fromB d.act = true := by rw [h2]; decide
    have h3 := hr.w3 (.inl hf)
    have h4 := hr.w4 h2
    have h6 := hr.w6 (.inr (.inr (.inl h2)))
    unfold yv at h3 h4 h6; rw [if_pos hf] at h3 h4 h6
    have h7 := g.four (vi d.src)
    have h8 := g.obj _ h3
    dsimp only
    split
    · rename_i e
      have h9 := g.shr _ e
      have := good_share g hi (hr.w2 (.inr hf)) h9 h8 h6
      rw [show vr s (vi d.src) = ⟨2, (vr s (vi d.src)).o⟩ by rw [← e]]
      exact this
    · rename_i e
      exact good_put g hi (hr.w2 (.inr hf)) (by omega) h8 (fun h => g.raw _ h)
  rw [if_neg h2]
  by_cases h3 : d.act = sBorrow
  · rw [if_pos h3]
    have hf : fromB d.act = true := by rw [h3]; decide
    have h4 := hr.w3 (.inl hf)
    unfold yv at h4; rw [if_pos hf] at h4
    exact good_put g hi (hr.w2 (.inr hf)) (.inl rfl) (g.obj _ h4) (fun h => by cases h)
  rw [if_neg h3]
  by_cases h4 : d.act = sFree
  · rw [if_pos h4]
    have hf : fromB d.act = false := by rw [h4]; decide
    have h5 := hr.w5 h4
    have h6 := hr.w6 (.inr (.inl h4))
    unfold yv at h5 h6; rw [hf] at h5 h6
    simp only [Bool.false_eq_true, if_false] at h5 h6
    exact good_free g hi (.inr (by rw [← h5])) h6
  rw [if_neg h4]
  split
  · exact good_drop g hi
  · exact g
end Ow
