/-
  A part of the proof of the claim that this folder bears.
  This text: K1.
-/
/-
  A small calculus for walks: the frame as a list of what is known of its slots, the heap as a list of assertions on disjoint parts, the code as a list of items still to do.
-/
import Derived.WalkKit
import Derived.Deep.Quiet
import Derived.OrdersHeld
namespace Go.KK

abbrev Fr := List (Nat × Value)

def get : Fr → Nat → Option Value
  | [], _ => none
  | (k, v) :: r, t => bif Nat.beq k t then some v else get r t

structure OkF (n : Nat) (F : Fr) (a : Act) : Prop where
  size : a.tmps.size = n
  nodef : a.defers = []
  val : ∀ t v, get F t = some v → a.tmps.getD t undef = v

def ev (F : Fr) : Operand → Option Value
  | .tmp t => get F t
  | .const v => some v
  | .global g => some (.pointer (some ⟨g, 0, none⟩))
  | .func f => some (.func (.func f) #[] #[])

theorem OkF.ev {n : Nat} {F : Fr} {a : Act} (h : OkF n F a) : ∀ x v, KK.ev F x = some v → a.eval x = v := by
  intro x v hx
  cases x with
  | tmp t => exact h.val t v hx
  | const c => simpa [KK.ev, Act.eval] using hx
  | global g => simpa [KK.ev, Act.eval] using hx
  | func f => simpa [KK.ev, Act.eval] using hx

theorem OkF.put {n d : Nat} {F : Fr} {a : Act} {v : Value} (h : OkF n F a) (hd : Nat.blt d n = true) : OkF n ((d, v) :: F) (a.put (some d) v) := by
  have hd' : d < n := by simpa [Nat.blt_eq] using hd
  refine ⟨by simp [Act.put, h.size], by simp [Act.put, h.nodef], ?_⟩
  intro t u ht
  simp only [get] at ht
  by_cases e : d = t
  · subst e
    have : Nat.beq d d = true := by simp
    rw [this] at ht
    simp only [cond_true, Option.some.injEq] at ht
    subst ht
    have : d < a.tmps.size := by rw [h.size]; exact hd'
    simp [Act.put, this]
  · have hb : Nat.beq d t = false := by
      cases hb : Nat.beq d t with
      | true => exact absurd (Nat.eq_of_beq_eq_true hb) e
      | false => rfl
    rw [hb] at ht
    simp only [cond_false] at ht
    have := h.val t u ht
    simpa [Act.put, Array.getD_eq_getD_getElem?, Array.getElem?_setIfInBounds_ne e] using this

theorem OkF.none {n : Nat} {F : Fr} {a : Act} {v : Value} (h : OkF n F a) : OkF n F (a.put none v) := h

/-- What is known of a frame, picked anew. -/
inductive Picks (F : Fr) : Fr → Prop
  | nil : Picks F []
  | cons {t : Nat} {v v' : Value} {G : Fr} : get F t = some v → v = v' → Picks F G → Picks F ((t, v') :: G)

theorem Picks.get {F G : Fr} (h : Picks F G) : ∀ t v, KK.get G t = some v → KK.get F t = some v := by
  induction h with
  | nil => intro t v h; simp [KK.get] at h
  | @cons t v v' G h1 h2 _ ih =>
    intro t' u hu
    simp only [KK.get] at hu
    cases hb : Nat.beq t t' with
    | true =>
      rw [hb] at hu
      simp only [cond_true, Option.some.injEq] at hu
      have := Nat.eq_of_beq_eq_true hb
      subst this; subst hu; subst h2
      exact h1
    | false =>
      rw [hb] at hu
      exact ih _ _ hu

theorem OkF.picks {n : Nat} {F G : Fr} {a : Act} (h : OkF n F a) (hp : Picks F G) : OkF n G a :=
  ⟨h.size, h.nodef, fun t v hv => h.val t v (hp.get t v hv)⟩

/-! The heap. -/
abbrev Hp := Nat → Option Obj
def hp (w : World) : Hp := fun b => w.heap[b]?
abbrev Asn := Hp → Prop

def Hp.le (h h' : Hp) : Prop := ∀ b o, h b = some o → h' b = some o
def Hp.dis (h h' : Hp) : Prop := ∀ b, h b = none ∨ h' b = none
def Hp.union (h h' : Hp) : Hp := fun b => match h b with | some o => some o | none => h' b
def Hp.upd (h : Hp) (b : Nat) (o : Obj) : Hp := fun x => if x = b then some o else h x

theorem Hp.le_refl (h : Hp) : Hp.le h h := fun _ _ h => h
theorem Hp.le_trans {a b c : Hp} (h : Hp.le a b) (h' : Hp.le b c) : Hp.le a c := fun _ _ hh => h' _ _ (h _ _ hh)
theorem Hp.le_union_left (a b : Hp) : Hp.le a (Hp.union a b) := fun x o h => by simp [Hp.union, h]
theorem Hp.le_union_right {a b : Hp} (hd : Hp.dis a b) : Hp.le b (Hp.union a b) := fun x o h => by
  rcases hd x with h' | h'
  · simp [Hp.union, h', h]
  · rw [h'] at h; cases h
theorem Hp.union_le {a b c : Hp} (h : Hp.le a c) (h' : Hp.le b c) : Hp.le (Hp.union a b) c := fun x o hx => by
  unfold Hp.union at hx
  split at hx
  · rename_i o' ho; cases hx; exact h _ _ ho
  · exact h' _ _ hx
theorem Hp.dis_symm {a b : Hp} (h : Hp.dis a b) : Hp.dis b a := fun x => (h x).symm
theorem Hp.dis_union {a b c : Hp} (h : Hp.dis a b) (h' : Hp.dis a c) : Hp.dis a (Hp.union b c) := fun x => by
  rcases h x with h1 | h1
  · exact .inl h1
  · rcases h' x with h2 | h2
    · exact .inl h2
    · right; simp [Hp.union, h1, h2]
theorem Hp.dis_le {a a' b b' : Hp} (h : Hp.dis a b) (ha : Hp.le a' a) (hb : Hp.le b' b) : Hp.dis a' b' := fun x => by
  cases hx : a' x with
  | none => exact .inl rfl
  | some o =>
    cases hy : b' x with
    | none => exact .inr rfl
    | some o' =>
      have h1 := ha _ _ hx
      have h2 := hb _ _ hy
      rcases h x with h3 | h3
      · rw [h3] at h1; cases h1
      · rw [h3] at h2; cases h2

def Sat : Hp → List Asn → Prop
  | _, [] => True
  | h, A :: L => ∃ h1 h2 : Hp, Hp.dis h1 h2 ∧ Hp.le h1 h ∧ Hp.le h2 h ∧ A h1 ∧ Sat h2 L

theorem Sat.mono {L : List Asn} {h h' : Hp} (hl : Hp.le h h') (hs : Sat h L) : Sat h' L := by
  cases L with
  | nil => trivial
  | cons A L =>
    obtain ⟨h1, h2, d, l1, l2, a, s⟩ := hs
    exact ⟨h1, h2, d, Hp.le_trans l1 hl, Hp.le_trans l2 hl, a, s⟩

theorem Sat.tail {A : Asn} {L : List Asn} {h : Hp} (hs : Sat h (A :: L)) : Sat h L := by
  obtain ⟨h1, h2, d, l1, l2, a, s⟩ := hs
  exact s.mono l2

theorem Sat.cons_imp {A B : Asn} {L M : List Asn} {h : Hp} (hA : ∀ h, A h → B h) (hL : ∀ h, Sat h L → Sat h M) (hs : Sat h (A :: L)) : Sat h (B :: M) := by
  obtain ⟨h1, h2, d, l1, l2, a, s⟩ := hs
  exact ⟨h1, h2, d, l1, l2, hA _ a, hL _ s⟩

theorem Sat.swap {A B : Asn} {L : List Asn} {h : Hp} (hs : Sat h (A :: B :: L)) : Sat h (B :: A :: L) := by
  obtain ⟨h1, h2, d, l1, l2, a, h21, h22, d', l21, l22, b, s⟩ := hs
  refine ⟨h21, Hp.union h1 h22, ?_, Hp.le_trans l21 l2, Hp.union_le l1 (Hp.le_trans l22 l2), b, h1, h22, Hp.dis_le d (Hp.le_refl _) l22, Hp.le_union_left _ _, Hp.le_union_right (Hp.dis_le d (Hp.le_refl _) l22), a, s⟩
  exact Hp.dis_union (Hp.dis_symm (Hp.dis_le d (Hp.le_refl _) l21)) d'

theorem Sat.perm {L M : List Asn} (hp : L.Perm M) : ∀ {h : Hp}, Sat h L → Sat h M := by
  induction hp with
  | nil => exact fun h => h
  | cons x _ ih => exact fun hs => hs.cons_imp (fun _ h => h) (fun _ h => ih h)
  | swap x y l => exact fun hs => hs.swap
  | trans _ _ ih1 ih2 => exact fun hs => ih2 (ih1 hs)

theorem Sat.append {M L : List Asn} : ∀ {h : Hp}, Sat h (M ++ L) ↔ ∃ h1 h2 : Hp, Hp.dis h1 h2 ∧ Hp.le h1 h ∧ Hp.le h2 h ∧ Sat h1 M ∧ Sat h2 L := by
  induction M with
  | nil => exact fun {h} => ⟨fun hs => ⟨fun _ => none, h, fun _ => .inl rfl, (fun _ _ hx => (by cases hx)), Hp.le_refl _, trivial, hs⟩, fun ⟨_, _, _, _, l2, _, s⟩ => s.mono l2⟩
  | cons A M ih =>
    intro h
    constructor
    · rintro ⟨h1, h2, d, l1, l2, a, s⟩
      obtain ⟨k1, k2, d', m1, m2, s1, s2⟩ := ih.1 s
      refine ⟨Hp.union h1 k1, k2, ?_, Hp.union_le l1 (Hp.le_trans m1 l2), Hp.le_trans m2 l2, ⟨h1, k1, Hp.dis_le d (Hp.le_refl _) m1, Hp.le_union_left _ _, Hp.le_union_right (Hp.dis_le d (Hp.le_refl _) m1), a, s1⟩, s2⟩
      exact Hp.dis_symm (Hp.dis_union (Hp.dis_symm (Hp.dis_le d (Hp.le_refl _) m2)) (Hp.dis_symm d'))
    · rintro ⟨k1, k2, d', m1, m2, ⟨h1, h2, d, l1, l2, a, s⟩, s2⟩
      refine ⟨h1, Hp.union h2 k2, Hp.dis_union d (Hp.dis_le d' l1 (Hp.le_refl _)), Hp.le_trans l1 m1, Hp.union_le (Hp.le_trans l2 m1) m2, a, ?_⟩
      exact ih.2 ⟨h2, k2, Hp.dis_le d' l2 (Hp.le_refl _), Hp.le_union_left _ _, Hp.le_union_right (Hp.dis_le d' l2 (Hp.le_refl _)), s, s2⟩

/-- Several assertions as one. -/
def star (M : List Asn) : Asn := fun h => Sat h M
theorem Sat.star {M L : List Asn} {h : Hp} : Sat h (star M :: L) ↔ Sat h (M ++ L) := by
  rw [Sat.append]
  constructor
  · rintro ⟨h1, h2, d, l1, l2, a, s⟩; exact ⟨h1, h2, d, l1, l2, a, s⟩
  · rintro ⟨h1, h2, d, l1, l2, a, s⟩; exact ⟨h1, h2, d, l1, l2, a, s⟩

theorem Sat.ex {α : Type} {A : α → Asn} {L : List Asn} {h : Hp} (hs : Sat h ((fun h => ∃ x, A x h) :: L)) : ∃ x, Sat h (A x :: L) := by
  obtain ⟨h1, h2, d, l1, l2, ⟨x, a⟩, s⟩ := hs
  exact ⟨x, h1, h2, d, l1, l2, a, s⟩
theorem Sat.pure {p : Prop} {A : Asn} {L : List Asn} {h : Hp} (hs : Sat h ((fun h => p ∧ A h) :: L)) : p ∧ Sat h (A :: L) := by
  obtain ⟨h1, h2, d, l1, l2, ⟨x, a⟩, s⟩ := hs
  exact ⟨x, h1, h2, d, l1, l2, a, s⟩
theorem Sat.head {A : Asn} {L : List Asn} {h : Hp} (hs : Sat h (A :: L)) : ∃ h1, Hp.le h1 h ∧ A h1 := by
  obtain ⟨h1, h2, d, l1, l2, a, s⟩ := hs
  exact ⟨h1, l1, a⟩
theorem Sat.mem {A : Asn} {L : List Asn} (hm : A ∈ L) : ∀ {h : Hp}, Sat h L → ∃ h1, Hp.le h1 h ∧ A h1 := by
  induction hm with
  | head => exact fun hs => hs.head
  | tail _ _ ih =>
    intro h hs
    obtain ⟨h1, h2, d, l1, l2, a, s⟩ := hs
    obtain ⟨k, hk, ha⟩ := ih s
    exact ⟨k, Hp.le_trans hk l2, ha⟩

/-- A block whole. -/
@[irreducible] def blk (b : Nat) (o : Obj) : Asn := fun h => h b = some o
theorem blk_iff {b : Nat} {o : Obj} {h : Hp} : blk b o h ↔ h b = some o := by unfold blk; exact Iff.rfl

theorem Sat.upd {b : Nat} {o o' : Obj} {L : List Asn} {h : Hp} (hs : Sat h (blk b o :: L)) : Sat (Hp.upd h b o') (blk b o' :: L) := by
  obtain ⟨h1, h2, d, l1, l2, a, s⟩ := hs
  rw [blk_iff] at a
  have hb : h2 b = none := by
    rcases d b with h' | h'
    · rw [h'] at a; cases a
    · exact h'
  refine ⟨Hp.upd h1 b o', h2, ?_, ?_, ?_, blk_iff.2 (by simp [Hp.upd]), s⟩
  · intro x
    by_cases e : x = b
    · subst e; exact .inr hb
    · simpa [Hp.upd, e] using d x
  · intro x u hx
    unfold Hp.upd at *
    by_cases e : x = b
    · simpa [e] using hx
    · simp only [e, if_false] at *; exact l1 _ _ hx
  · intro x u hx
    unfold Hp.upd
    by_cases e : x = b
    · subst e; rw [hb] at hx; cases hx
    · simp only [e, if_false]; exact l2 _ _ hx

theorem Sat.new {b : Nat} {o : Obj} {L : List Asn} {h : Hp} (hb : h b = none) (hs : Sat h L) : Sat (Hp.upd h b o) (blk b o :: L) := by
  refine ⟨fun x => if x = b then some o else none, h, ?_, ?_, ?_, blk_iff.2 (by simp), hs⟩
  · intro x
    by_cases e : x = b
    · subst e; exact .inr hb
    · left; simp [e]
  · intro x u hx
    by_cases e : x = b
    · simp [e] at hx; simp [Hp.upd, e, hx]
    · simp [e] at hx
  · intro x u hx
    unfold Hp.upd
    by_cases e : x = b
    · subst e; rw [hb] at hx; cases hx
    · simp only [e, if_false]; exact hx

/-- A fact on blocks in a list of assertions. -/
class BlkIn (L : List Asn) (b : Nat) (o : outParam Obj) : Prop where
  out : ∀ h, Sat h L → h b = some o
instance BlkIn.head {L : List Asn} {b : Nat} {o : Obj} : BlkIn (blk b o :: L) b o := ⟨fun h hs => by
  obtain ⟨h1, l, a⟩ := hs.head
  exact l _ _ (blk_iff.1 a)⟩
instance (priority := 900) BlkIn.tail {A : Asn} {L : List Asn} {b : Nat} {o : Obj} [hh : BlkIn L b o] : BlkIn (A :: L) b o := ⟨fun h hs => hh.out h hs.tail⟩

def cellH (h : Hp) (a : Addr) : Option Value :=
  match h a.block with
  | some (.cells c _ _) => if a.spot.isSome then none else c[a.off]?
  | _ => none
theorem cell?_eq (w : World) (a : Addr) : w.cell? a = cellH (hp w) a := rfl
theorem cellH_mono {h h' : Hp} {a : Addr} {v : Value} (hl : Hp.le h h') (hc : cellH h a = some v) : cellH h' a = some v := by
  unfold cellH at *
  cases hb : h a.block with
  | none => simp [hb] at hc
  | some o => rw [hl _ _ hb]; simpa [hb] using hc

def CellIn (L : List Asn) (a : Addr) (v : Value) : Prop := ∀ h, Sat h L → cellH h a = some v
theorem CellIn.blk {L : List Asn} {b k : Nat} {cs : Array Value} {T : TypeId} {fz : Nat × Nat} {v : Value} [hb : BlkIn L b (.cells cs T fz)] (hv : cs[k]? = some v) : CellIn L ⟨b, k, none⟩ v := fun h hh => by
  have := hb.out h hh
  simp [cellH, this, hv]

end Go.KK
