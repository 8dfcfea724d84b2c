/-
  A part of the proof of the claim that this folder bears.
  This text: QPlain.
-/
/-
  The plain machine of layer 17: a ring of places, the messages that fly, the token. No program in sight.
-/
set_option linter.unusedVariables false
set_option linter.unusedSimpArgs false
namespace Qt

structure Spot where
  active : Bool
  black : Bool
  count : Int
  deriving DecidableEq

structure St where
  spots : List Spot
  fly : List (Int × Int)
  pos : Nat
  sum : Int
  dark : Bool
  fresh : Bool
  told : Bool
  passes : Int
  deriving DecidableEq

def isP (σ : St) (p : Int) : Prop := 0 ≤ p ∧ p < (σ.spots.length : Int)
instance (σ : St) (p : Int) : Decidable (isP σ p) := by unfold isP; infer_instance

def spot (σ : St) (i : Nat) : Spot := σ.spots.getD i ⟨false, false, 0⟩

def init (n : Nat) : St := ⟨(List.replicate n ⟨false, false, 0⟩).set 0 ⟨true, false, 0⟩, [], 0, 0, false, true, false, 0⟩

def sendS (σ : St) (f t : Int) : St :=
  ⟨σ.spots.set f.toNat { spot σ f.toNat with count := (spot σ f.toNat).count + 1 }, σ.fly ++ [(f, t)], σ.pos, σ.sum, σ.dark, σ.fresh, σ.told, σ.passes⟩
def send (σ : St) (f t : Int) : Int × St :=
  if ¬ isP σ f ∨ ¬ isP σ t then (2, σ)
  else if (spot σ f.toNat).active = false then (170, σ)
  else (0, sendS σ f t)

def dest (σ : St) (k : Int) : Int := (σ.fly.getD k.toNat (0, 0)).2
def recvS (σ : St) (k : Int) : St :=
  ⟨σ.spots.set (dest σ k).toNat ⟨true, true, (spot σ (dest σ k).toNat).count - 1⟩, σ.fly.take k.toNat ++ σ.fly.drop (k.toNat + 1), σ.pos, σ.sum, σ.dark, σ.fresh, σ.told, σ.passes⟩
def recv (σ : St) (k : Int) : Int × St :=
  if k < 0 ∨ (σ.fly.length : Int) ≤ k then (2, σ)
  else (0, recvS σ k)

def idleS (σ : St) (p : Int) : St :=
  ⟨σ.spots.set p.toNat { spot σ p.toNat with active := false }, σ.fly, σ.pos, σ.sum, σ.dark, σ.fresh, σ.told, σ.passes⟩
def idle (σ : St) (p : Int) : Int × St :=
  if ¬ isP σ p then (2, σ)
  else if (spot σ p.toNat).active = false then (170, σ)
  else (0, idleS σ p)

def tellS (σ : St) : St := ⟨σ.spots, σ.fly, σ.pos, σ.sum, σ.dark, σ.fresh, true, σ.passes + 1⟩
def stepDown (σ : St) : St :=
  ⟨σ.spots.set σ.pos { spot σ σ.pos with black := false }, σ.fly, σ.pos - 1, σ.sum + (spot σ σ.pos).count, σ.dark || (spot σ σ.pos).black, σ.fresh, σ.told, σ.passes + 1⟩
def newRound (σ : St) : St :=
  ⟨σ.spots.set 0 { spot σ 0 with black := false }, σ.fly, σ.spots.length - 1, 0, false, false, σ.told, σ.passes + 1⟩

def pass (σ : St) : Bool × Int × St :=
  if σ.told = true then (true, 0, σ)
  else if (spot σ σ.pos).active = true then (false, 171, σ)
  else if 0 < σ.pos then (false, 0, stepDown σ)
  else if σ.fresh = false ∧ σ.dark = false ∧ (spot σ 0).black = false ∧ σ.sum + (spot σ 0).count = 0 then
    (true, 0, tellS σ)
  else (false, 0, newRound σ)

def act (σ : St) (x y z : Int) : St :=
  if (x.tmod 4 + 4).tmod 4 = 0 then (send σ y z).2
  else if (x.tmod 4 + 4).tmod 4 = 1 then (recv σ y).2
  else if (x.tmod 4 + 4).tmod 4 = 2 then (idle σ y).2
  else (pass σ).2.2
theorem tmod4 (x : Int) : -4 < x.tmod 4 ∧ x.tmod 4 < 4 :=
  ⟨Int.lt_tmod_of_pos x (by decide), Int.tmod_lt_of_pos x (by decide)⟩

def actPre (σ : St) (n : Nat) : List Int := ((List.range n).filter fun i => (spot σ i).active).map Int.ofNat
theorem actPre_succ (σ : St) (n : Nat) : actPre σ (n + 1) = actPre σ n ++ (if (spot σ n).active = true then [(n : Int)] else []) := by
  unfold actPre
  rw [List.range_succ, List.filter_append, List.map_append]
  congr 1
  by_cases h : (spot σ n).active = true <;> simp [h]
def actList (σ : St) : List Int := actPre σ σ.spots.length
def counts (σ : St) : List Int := σ.spots.map (·.count)
def over (σ : St) : Bool := (actList σ).isEmpty && σ.fly.isEmpty

/-- The shape of a ring, and bounds on its numbers. -/
structure Wf (σ : St) (N : Nat) : Prop where
  pos : σ.pos < σ.spots.length
  le : σ.spots.length ≤ 8
  fly : ∀ p ∈ σ.fly, (0 ≤ p.1 ∧ p.1 < (σ.spots.length : Int)) ∧ (0 ≤ p.2 ∧ p.2 < (σ.spots.length : Int))
  cnt : ∀ s ∈ σ.spots, -(N : Int) ≤ s.count ∧ s.count ≤ (N : Int)
  sum : -(10000 * (N : Int)) ≤ σ.sum ∧ σ.sum ≤ 10000 * (N : Int)
  num : N ≤ 10000
  pas : 0 ≤ σ.passes ∧ σ.passes ≤ (N : Int)
  len : σ.fly.length ≤ N

theorem spot_get {σ : St} {i : Nat} (h : i < σ.spots.length) : σ.spots[i]? = some (spot σ i) := by
  unfold spot
  simp [List.getD_eq_getElem?_getD, List.getElem?_eq_getElem h]
theorem spot_mem {σ : St} {i : Nat} (h : i < σ.spots.length) : spot σ i ∈ σ.spots := List.mem_of_getElem? (spot_get h)

theorem map_keep {β : Type} {σ : St} {i : Nat} {s' : Spot} (g : Spot → β) (h : g s' = g (spot σ i)) : (σ.spots.set i s').map g = σ.spots.map g := by
  apply List.ext_getElem?
  intro j
  by_cases hij : i = j
  · subst hij
    by_cases hi : i < σ.spots.length
    · have := spot_get hi
      simp [this, h]
      exact List.getElem?_set_self (by simpa using hi)
    · rw [List.set_eq_of_length_le (by omega)]
  · simp [List.getElem?_set_ne hij]
theorem map_new {β : Type} {l : List Spot} {i : Nat} {s' : Spot} (g : Spot → β) : (l.set i s').map g = (l.map g).set i (g s') := List.map_set
theorem map_get {β : Type} {σ : St} {i : Nat} (g : Spot → β) (h : i < σ.spots.length) : (σ.spots.map g)[i]? = some (g (spot σ i)) := by
  simp [spot_get h]
theorem actPre_le (σ : St) (n : Nat) : (actPre σ n).length ≤ n := by
  unfold actPre
  have := List.length_filter_le (fun i => (spot σ i).active) (List.range n)
  simpa using this
theorem over_cond {σ : St} (h : ((actList σ).length : Int) = 0) : decide ((σ.fly.length : Int) = 0) = over σ := by
  have h1 : actList σ = [] := List.eq_nil_of_length_eq_zero (by omega)
  unfold over
  rw [h1]
  cases hf : σ.fly <;> simp <;> omega
theorem over_no {σ : St} (h : ¬ ((actList σ).length : Int) = 0) : false = over σ := by
  unfold over
  cases ha : actList σ with
  | nil => simp [ha] at h
  | cons x l => simp
theorem fly_get {σ : St} {k : Nat} (h : k < σ.fly.length) : σ.fly[k]? = some (σ.fly.getD k (0, 0)) := by
  simp [List.getD_eq_getElem?_getD, List.getElem?_eq_getElem h]
theorem counts_get {σ : St} {i : Nat} (h : i < σ.spots.length) : (counts σ).take (i + 1) = (counts σ).take i ++ [(spot σ i).count] := by
  have h' : i < (counts σ).length := by simpa [counts] using h
  rw [List.take_succ_eq_append_getElem h']
  congr 2
  have := spot_get h
  rw [List.getElem?_eq_getElem h] at this
  simp only [Option.some.injEq] at this
  simp [counts, this]
end Qt
