/-
  A part of the proof of the claim that this folder bears.
-/
import Derived.WalkKit
import Derived.Deep.Quiet
import Derived.OrdersHeld
import Derived.Laws.Cover3
import Derived.Laws.OwnMore
import Derived.Laws.Pointers
import Derived.IntWalk
/- The text K1. -/
/-
  A small calculus for walks: the frame as a list of what is known of its slots, the heap as a list of assertions on disjoint parts, the code as a list of items still to do.
-/
namespace Go.KK

abbrev Fr := List (Nat × Value)

def get : Fr → Nat → Option Value
  | [], _ => none
  | (k, v) :: r, t => bif Nat.beq k t then some v else get r t

structure OkF (n : Nat) (F : Fr) (a : Act) : Prop where
  size : a.tmps.size = n
  nodef : a.defers = []
  val : ∀ t v, get F t = some v → a.tmps.getD t undef = v

def ev (F : Fr) : Operand → Option Value
  | .tmp t => get F t
  | .const v => some v
  | .global g => some (.pointer (some ⟨g, 0, none⟩))
  | .func f => some (.func (.func f) #[] #[])

theorem OkF.ev {n : Nat} {F : Fr} {a : Act} (h : OkF n F a) : ∀ x v, KK.ev F x = some v → a.eval x = v := by
  intro x v hx
  cases x with
  | tmp t => exact h.val t v hx
  | const c => simpa [KK.ev, Act.eval] using hx
  | global g => simpa [KK.ev, Act.eval] using hx
  | func f => simpa [KK.ev, Act.eval] using hx

theorem OkF.put {n d : Nat} {F : Fr} {a : Act} {v : Value} (h : OkF n F a) (hd : Nat.blt d n = true) : OkF n ((d, v) :: F) (a.put (some d) v) := by
  have hd' : d < n := by simpa [Nat.blt_eq] using hd
  refine ⟨by simp [Act.put, h.size], by simp [Act.put, h.nodef], ?_⟩
  intro t u ht
  simp only [get] at ht
  by_cases e : d = t
  · subst e
    have : Nat.beq d d = true := by simp
    rw [this] at ht
    simp only [cond_true, Option.some.injEq] at ht
    subst ht
    have : d < a.tmps.size := by rw [h.size]; exact hd'
    simp [Act.put, this]
  · have hb : Nat.beq d t = false := by
      cases hb : Nat.beq d t with
      | true => exact absurd (Nat.eq_of_beq_eq_true hb) e
      | false => rfl
    rw [hb] at ht
    simp only [cond_false] at ht
    have := h.val t u ht
    simpa [Act.put, Array.getD_eq_getD_getElem?, Array.getElem?_setIfInBounds_ne e] using this

theorem OkF.none {n : Nat} {F : Fr} {a : Act} {v : Value} (h : OkF n F a) : OkF n F (a.put none v) := h

/-- What is known of a frame, picked anew. -/
inductive Picks (F : Fr) : Fr → Prop
  | nil : Picks F []
  | cons {t : Nat} {v v' : Value} {G : Fr} : get F t = some v → v = v' → Picks F G → Picks F ((t, v') :: G)

theorem Picks.get {F G : Fr} (h : Picks F G) : ∀ t v, KK.get G t = some v → KK.get F t = some v := by
  induction h with
  | nil => intro t v h; simp [KK.get] at h
  | @cons t v v' G h1 h2 _ ih =>
    intro t' u hu
    simp only [KK.get] at hu
    cases hb : Nat.beq t t' with
    | true =>
      rw [hb] at hu
      simp only [cond_true, Option.some.injEq] at hu
      have := Nat.eq_of_beq_eq_true hb
      subst this; subst hu; subst h2
      exact h1
    | false =>
      rw [hb] at hu
      exact ih _ _ hu

theorem OkF.picks {n : Nat} {F G : Fr} {a : Act} (h : OkF n F a) (hp : Picks F G) : OkF n G a :=
  ⟨h.size, h.nodef, fun t v hv => h.val t v (hp.get t v hv)⟩

/-! The heap. -/
abbrev Hp := Nat → Option Obj
def hp (w : World) : Hp := fun b => w.heap[b]?
abbrev Asn := Hp → Prop

def Hp.le (h h' : Hp) : Prop := ∀ b o, h b = some o → h' b = some o
def Hp.dis (h h' : Hp) : Prop := ∀ b, h b = none ∨ h' b = none
def Hp.union (h h' : Hp) : Hp := fun b => match h b with | some o => some o | none => h' b
def Hp.upd (h : Hp) (b : Nat) (o : Obj) : Hp := fun x => if x = b then some o else h x

theorem Hp.le_refl (h : Hp) : Hp.le h h := fun _ _ h => h
theorem Hp.le_trans {a b c : Hp} (h : Hp.le a b) (h' : Hp.le b c) : Hp.le a c := fun _ _ hh => h' _ _ (h _ _ hh)
theorem Hp.le_union_left (a b : Hp) : Hp.le a (Hp.union a b) := fun x o h => by simp [Hp.union, h]
theorem Hp.le_union_right {a b : Hp} (hd : Hp.dis a b) : Hp.le b (Hp.union a b) := fun x o h => by
  rcases hd x with h' | h'
  · simp [Hp.union, h', h]
  · rw [h'] at h; cases h
theorem Hp.union_le {a b c : Hp} (h : Hp.le a c) (h' : Hp.le b c) : Hp.le (Hp.union a b) c := fun x o hx => by
  unfold Hp.union at hx
  split at hx
  · rename_i o' ho; cases hx; exact h _ _ ho
  · exact h' _ _ hx
theorem Hp.dis_symm {a b : Hp} (h : Hp.dis a b) : Hp.dis b a := fun x => (h x).symm
theorem Hp.dis_union {a b c : Hp} (h : Hp.dis a b) (h' : Hp.dis a c) : Hp.dis a (Hp.union b c) := fun x => by
  rcases h x with h1 | h1
  · exact .inl h1
  · rcases h' x with h2 | h2
    · exact .inl h2
    · right; simp [Hp.union, h1, h2]
theorem Hp.dis_le {a a' b b' : Hp} (h : Hp.dis a b) (ha : Hp.le a' a) (hb : Hp.le b' b) : Hp.dis a' b' := fun x => by
  cases hx : a' x with
  | none => exact .inl rfl
  | some o =>
    cases hy : b' x with
    | none => exact .inr rfl
    | some o' =>
      have h1 := ha _ _ hx
      have h2 := hb _ _ hy
      rcases h x with h3 | h3
      · rw [h3] at h1; cases h1
      · rw [h3] at h2; cases h2

def Sat : Hp → List Asn → Prop
  | _, [] => True
  | h, A :: L => ∃ h1 h2 : Hp, Hp.dis h1 h2 ∧ Hp.le h1 h ∧ Hp.le h2 h ∧ A h1 ∧ Sat h2 L

theorem Sat.mono {L : List Asn} {h h' : Hp} (hl : Hp.le h h') (hs : Sat h L) : Sat h' L := by
  cases L with
  | nil => trivial
  | cons A L =>
    obtain ⟨h1, h2, d, l1, l2, a, s⟩ := hs
    exact ⟨h1, h2, d, Hp.le_trans l1 hl, Hp.le_trans l2 hl, a, s⟩

theorem Sat.tail {A : Asn} {L : List Asn} {h : Hp} (hs : Sat h (A :: L)) : Sat h L := by
  obtain ⟨h1, h2, d, l1, l2, a, s⟩ := hs
  exact s.mono l2

theorem Sat.cons_imp {A B : Asn} {L M : List Asn} {h : Hp} (hA : ∀ h, A h → B h) (hL : ∀ h, Sat h L → Sat h M) (hs : Sat h (A :: L)) : Sat h (B :: M) := by
  obtain ⟨h1, h2, d, l1, l2, a, s⟩ := hs
  exact ⟨h1, h2, d, l1, l2, hA _ a, hL _ s⟩

theorem Sat.swap {A B : Asn} {L : List Asn} {h : Hp} (hs : Sat h (A :: B :: L)) : Sat h (B :: A :: L) := by
  obtain ⟨h1, h2, d, l1, l2, a, h21, h22, d', l21, l22, b, s⟩ := hs
  refine ⟨h21, Hp.union h1 h22, ?_, Hp.le_trans l21 l2, Hp.union_le l1 (Hp.le_trans l22 l2), b, h1, h22, Hp.dis_le d (Hp.le_refl _) l22, Hp.le_union_left _ _, Hp.le_union_right (Hp.dis_le d (Hp.le_refl _) l22), a, s⟩
  exact Hp.dis_union (Hp.dis_symm (Hp.dis_le d (Hp.le_refl _) l21)) d'

theorem Sat.perm {L M : List Asn} (hp : L.Perm M) : ∀ {h : Hp}, Sat h L → Sat h M := by
  induction hp with
  | nil => exact fun h => h
  | cons x _ ih => exact fun hs => hs.cons_imp (fun _ h => h) (fun _ h => ih h)
  | swap x y l => exact fun hs => hs.swap
  | trans _ _ ih1 ih2 => exact fun hs => ih2 (ih1 hs)

theorem Sat.append {M L : List Asn} : ∀ {h : Hp}, Sat h (M ++ L) ↔ ∃ h1 h2 : Hp, Hp.dis h1 h2 ∧ Hp.le h1 h ∧ Hp.le h2 h ∧ Sat h1 M ∧ Sat h2 L := by
  induction M with
  | nil => exact fun {h} => ⟨fun hs => ⟨fun _ => none, h, fun _ => .inl rfl, (fun _ _ hx => (by cases hx)), Hp.le_refl _, trivial, hs⟩, fun ⟨_, _, _, _, l2, _, s⟩ => s.mono l2⟩
  | cons A M ih =>
    intro h
    constructor
    · rintro ⟨h1, h2, d, l1, l2, a, s⟩
      obtain ⟨k1, k2, d', m1, m2, s1, s2⟩ := ih.1 s
      refine ⟨Hp.union h1 k1, k2, ?_, Hp.union_le l1 (Hp.le_trans m1 l2), Hp.le_trans m2 l2, ⟨h1, k1, Hp.dis_le d (Hp.le_refl _) m1, Hp.le_union_left _ _, Hp.le_union_right (Hp.dis_le d (Hp.le_refl _) m1), a, s1⟩, s2⟩
      exact Hp.dis_symm (Hp.dis_union (Hp.dis_symm (Hp.dis_le d (Hp.le_refl _) m2)) (Hp.dis_symm d'))
    · rintro ⟨k1, k2, d', m1, m2, ⟨h1, h2, d, l1, l2, a, s⟩, s2⟩
      refine ⟨h1, Hp.union h2 k2, Hp.dis_union d (Hp.dis_le d' l1 (Hp.le_refl _)), Hp.le_trans l1 m1, Hp.union_le (Hp.le_trans l2 m1) m2, a, ?_⟩
      exact ih.2 ⟨h2, k2, Hp.dis_le d' l2 (Hp.le_refl _), Hp.le_union_left _ _, Hp.le_union_right (Hp.dis_le d' l2 (Hp.le_refl _)), s, s2⟩

/-- Several assertions as one. -/
def star (M : List Asn) : Asn := fun h => Sat h M
theorem Sat.star {M L : List Asn} {h : Hp} : Sat h (star M :: L) ↔ Sat h (M ++ L) := by
  rw [Sat.append]
  constructor
  · rintro ⟨h1, h2, d, l1, l2, a, s⟩; exact ⟨h1, h2, d, l1, l2, a, s⟩
  · rintro ⟨h1, h2, d, l1, l2, a, s⟩; exact ⟨h1, h2, d, l1, l2, a, s⟩

theorem Sat.pure {p : Prop} {A : Asn} {L : List Asn} {h : Hp} (hs : Sat h ((fun h => p ∧ A h) :: L)) : p ∧ Sat h (A :: L) := by
  obtain ⟨h1, h2, d, l1, l2, ⟨x, a⟩, s⟩ := hs
  exact ⟨x, h1, h2, d, l1, l2, a, s⟩
theorem Sat.head {A : Asn} {L : List Asn} {h : Hp} (hs : Sat h (A :: L)) : ∃ h1, Hp.le h1 h ∧ A h1 := by
  obtain ⟨h1, h2, d, l1, l2, a, s⟩ := hs
  exact ⟨h1, l1, a⟩
theorem Sat.mem {A : Asn} {L : List Asn} (hm : A ∈ L) : ∀ {h : Hp}, Sat h L → ∃ h1, Hp.le h1 h ∧ A h1 := by
  induction hm with
  | head => exact fun hs => hs.head
  | tail _ _ ih =>
    intro h hs
    obtain ⟨h1, h2, d, l1, l2, a, s⟩ := hs
    obtain ⟨k, hk, ha⟩ := ih s
    exact ⟨k, Hp.le_trans hk l2, ha⟩

/-- A block whole. -/
@[irreducible] def blk (b : Nat) (o : Obj) : Asn := fun h => h b = some o
theorem blk_iff {b : Nat} {o : Obj} {h : Hp} : blk b o h ↔ h b = some o := by unfold blk; exact Iff.rfl

theorem Sat.upd {b : Nat} {o o' : Obj} {L : List Asn} {h : Hp} (hs : Sat h (blk b o :: L)) : Sat (Hp.upd h b o') (blk b o' :: L) := by
  obtain ⟨h1, h2, d, l1, l2, a, s⟩ := hs
  rw [blk_iff] at a
  have hb : h2 b = none := by
    rcases d b with h' | h'
    · rw [h'] at a; cases a
    · exact h'
  refine ⟨Hp.upd h1 b o', h2, ?_, ?_, ?_, blk_iff.2 (by simp [Hp.upd]), s⟩
  · intro x
    by_cases e : x = b
    · subst e; exact .inr hb
    · simpa [Hp.upd, e] using d x
  · intro x u hx
    unfold Hp.upd at *
    by_cases e : x = b
    · simpa [e] using hx
    · simp only [e, if_false] at *; exact l1 _ _ hx
  · intro x u hx
    unfold Hp.upd
    by_cases e : x = b
    · subst e; rw [hb] at hx; cases hx
    · simp only [e, if_false]; exact l2 _ _ hx

theorem Sat.new {b : Nat} {o : Obj} {L : List Asn} {h : Hp} (hb : h b = none) (hs : Sat h L) : Sat (Hp.upd h b o) (blk b o :: L) := by
  refine ⟨fun x => if x = b then some o else none, h, ?_, ?_, ?_, blk_iff.2 (by simp), hs⟩
  · intro x
    by_cases e : x = b
    · subst e; exact .inr hb
    · left; simp [e]
  · intro x u hx
    by_cases e : x = b
    · simp [e] at hx; simp [Hp.upd, e, hx]
    · simp [e] at hx
  · intro x u hx
    unfold Hp.upd
    by_cases e : x = b
    · subst e; rw [hb] at hx; cases hx
    · simp only [e, if_false]; exact hx

/-- A fact on blocks in a list of assertions. -/
class BlkIn (L : List Asn) (b : Nat) (o : outParam Obj) : Prop where
  out : ∀ h, Sat h L → h b = some o
instance BlkIn.head {L : List Asn} {b : Nat} {o : Obj} : BlkIn (blk b o :: L) b o := ⟨fun h hs => by
  obtain ⟨h1, l, a⟩ := hs.head
  exact l _ _ (blk_iff.1 a)⟩
instance (priority := 900) BlkIn.tail {A : Asn} {L : List Asn} {b : Nat} {o : Obj} [hh : BlkIn L b o] : BlkIn (A :: L) b o := ⟨fun h hs => hh.out h hs.tail⟩

def cellH (h : Hp) (a : Addr) : Option Value :=
  match h a.block with
  | some (.cells c _ _) => if a.spot.isSome then none else c[a.off]?
  | _ => none
theorem cell?_eq (w : World) (a : Addr) : w.cell? a = cellH (hp w) a := rfl
theorem cellH_mono {h h' : Hp} {a : Addr} {v : Value} (hl : Hp.le h h') (hc : cellH h a = some v) : cellH h' a = some v := by
  unfold cellH at *
  cases hb : h a.block with
  | none => simp [hb] at hc
  | some o => rw [hl _ _ hb]; simpa [hb] using hc

def CellIn (L : List Asn) (a : Addr) (v : Value) : Prop := ∀ h, Sat h L → cellH h a = some v
theorem CellIn.blk {L : List Asn} {b k : Nat} {cs : Array Value} {T : TypeId} {fz : Nat × Nat} {v : Value} [hb : BlkIn L b (.cells cs T fz)] (hv : cs[k]? = some v) : CellIn L ⟨b, k, none⟩ v := fun h hh => by
  have := hb.out h hh
  simp [cellH, this, hv]

end Go.KK

/- The text K2. -/
set_option linter.unusedVariables false
set_option linter.unusedSimpArgs false
namespace Go.KK

/-- What no operation of these programs turns: the streams, the system. -/
def env (w : World) := (w.os, w.tape, w.output)

/-- What a call comes to: it returns a value, and the heap meets a list of assertions, which 'Q' says of both. -/
def CallS (P : Program) (f : FuncId) (args : Array Value) (L : List Asn) (Q : Value → List Asn → Prop) : Prop :=
  ∀ w, Sat (hp w) L → Calls P f args w (fun (e : Ending) (w' : World) => ∃ v L', Q v L' ∧ e = .returned v ∧ Sat (hp w') L' ∧ env w' = env w)

theorem CallS.mono {P : Program} {f : FuncId} {args : Array Value} {L : List Asn} {Q Q' : Value → List Asn → Prop} (h : CallS P f args L Q)
    (hq : ∀ v M, Q v M → ∃ M', Q' v M' ∧ ∀ h, Sat h M → Sat h M') : CallS P f args L Q' := fun w hs =>
  (h w hs).mono fun e w' ⟨v, M, q, he, s, hv⟩ => let ⟨M', q', hm⟩ := hq v M q; ⟨v, M', q', he, hm _ s, hv⟩

theorem CallS.pre {P : Program} {f : FuncId} {args : Array Value} {L L' : List Asn} {Q : Value → List Asn → Prop} (h : CallS P f args L Q)
    (hl : ∀ h, Sat h L' → Sat h L) : CallS P f args L' Q := fun w hs => h w (hl _ hs)

def bse (f : FuncId) : Frame := { (default : Frame) with fn := f, kind := .normal }

/-- From here the function's call comes to what Q says. -/
def Go1 (P : Program) (f : FuncId) (res : List ResultVar) (Q : Value → List Asn → Prop) (a : Act) (w : World) (k : List Item) : Prop :=
  ∀ fn, P.funcs[f]? = some fn → fn.results = res.toArray → ∀ cs, ∃ (v : Value) (L' : List Asn) (w' : World) (fr : Frame), Q v L' ∧ Sat (hp w') L' ∧ env w' = env w ∧ Steps P (lone ((bse f).at a k) cs w) (lone fr cs w') ∧ fr.fn = f ∧ fr.leaving P w' (.returned v)

theorem Go1.of_steps {P : Program} {f : FuncId} {res : List ResultVar} {Q : Value → List Asn → Prop} {a a' : Act} {w w' : World} {k k' : List Item}
    (h : ∀ cs, Steps P (lone ((bse f).at a k) cs w) (lone ((bse f).at a' k') cs w')) (hg : Go1 P f res Q a' w' k') (he : env w' = env w := by rfl) : Go1 P f res Q a w k := fun fn h1 h2 cs =>
  let ⟨v, L', w', fr, q, s, hv, st, e, l⟩ := hg fn h1 h2 cs
  ⟨v, L', w', fr, q, s, hv.trans he, (h cs).trans st, e, l⟩

/-- The judgement: whatever the frame that meets F, whatever the heap that meets L. -/
structure Cx where
  P : Program
  f : FuncId
  n : Nat
  res : List ResultVar
  Q : Value → List Asn → Prop

def J (c : Cx) (F : Fr) (L : List Asn) (k : List Item) : Prop := ∀ a w, OkF c.n F a → Sat (hp w) L → Go1 c.P c.f c.res c.Q a w k

def argF : Nat → List Value → Fr
  | _, [] => []
  | i, v :: vs => (i, v) :: argF (i + 1) vs

theorem get_argF : ∀ (vs : List Value) (i t : Nat) (v : Value), get (argF i vs) t = some v → i ≤ t ∧ vs[t - i]? = some v
  | [], _, _, _, h => by simp [argF, get] at h
  | u :: vs, i, t, v, h => by
    simp only [argF, get] at h
    cases hb : Nat.beq i t with
    | true =>
      rw [hb] at h
      have := Nat.eq_of_beq_eq_true hb
      subst this
      simp at h
      simp [h]
    | false =>
      rw [hb] at h
      have h' := get_argF vs (i + 1) t v h
      refine ⟨by omega, ?_⟩
      have : t - i = (t - (i + 1)) + 1 := by omega
      rw [this]; simpa using h'.2

theorem CallS.enter {P : Program} {f : FuncId} {fn : Func} {vs : List Value} {L : List Asn} {Q : Value → List Asn → Prop} {n : Nat} {b : Option Code} {res : List ResultVar}
    (hf : P.funcs[f]? = some fn) (hn : fn.ntmps = n) (hr : fn.results = res.toArray) (hb : fn.body = b) (hz : b.isSome = true) (hlen : Nat.ble vs.length n = true)
    (h : J ⟨P, f, n, res, Q⟩ (argF 0 vs) L [.code (b.getD .skip)]) : CallS P f vs.toArray L Q := by
  cases b with
  | none => simp at hz
  | some c =>
  intro w hs cs
  have hlen' : vs.length ≤ n := Nat.le_of_ble_eq_true hlen
  have henter : Frame.enter P f vs.toArray .normal = (bse f).at { tmps := vs.toArray ++ Array.replicate (fn.ntmps - vs.toArray.size) undef, defers := [] } [.code c] := by
    simp [Frame.enter, Frame.at, hf, hb, bse]
  obtain ⟨v, L', w', fr, q, s, hv, st, e, l⟩ := h { tmps := vs.toArray ++ Array.replicate (fn.ntmps - vs.toArray.size) undef, defers := [] } w
    ⟨by simp [hn]; omega, rfl, fun t v hv => by
      have h1 := get_argF vs 0 t v hv
      simp at h1
      obtain ⟨h2, h3⟩ := List.getElem?_eq_some_iff.1 h1
      simp [Array.getD_eq_getD_getElem?, Array.getElem?_append, h2, h3]⟩ hs fn hf hr cs
  exact ⟨.returned v, w', fr, ⟨v, L', q, rfl, s, hv⟩, by rw [henter]; exact st, e, l⟩

section rules
variable {c : Cx} {F : Fr} {L : List Asn} {k : List Item}

theorem J.weaken {G : Fr} {M : List Asn} (hF : Picks F G) (hL : ∀ h, Sat h L → Sat h M) (h : J c G M k) : J c F L k := fun a w hF' hs => h a w (hF'.picks hF) (hL _ hs)
theorem J.picks {G : Fr} (hF : Picks F G) (h : J c G L k) : J c F L k := fun a w hF' hs => h a w (hF'.picks hF) hs
theorem J.perm {M : List Asn} (hL : L.Perm M) (h : J c F M k) : J c F L k := fun a w hF' hs => h a w hF' (hs.perm hL)
theorem J.imp {M : List Asn} (hL : ∀ h, Sat h L → Sat h M) (h : J c F M k) : J c F L k := fun a w hF' hs => h a w hF' (hL _ hs)
theorem J.star {M : List Asn} (h : J c F (M ++ L) k) : J c F (star M :: L) k := fun a w hF' hs => h a w hF' (Sat.star.1 hs)
theorem J.fact {p : Prop} (hp : ∀ h, Sat h L → p) (h : p → J c F L k) : J c F L k := fun a w hF' hs => h (hp _ hs) a w hF' hs

/-! Code. Its parts are named by what takes them out. -/
def cL : Code → Code | .seq a _ => a | .cond _ a _ => a | .block _ b => b | .loop b => b | .scope b => b | c => c
def cR : Code → Code | .seq _ b => b | .cond _ _ b => b | c => c
def cOps : Code → List Oper | .region _ ops _ => ops.toList | _ => []
def cId : Code → Nat | .block i _ => i | .exit i => i | .region i _ _ => i | _ => 0
def cOp : Code → Operand | .cond x _ _ => x | _ => .const undef
def kind : Code → Nat
  | .skip => 0 | .region _ _ false => 1 | .region _ _ true => 2 | .seq .. => 3 | .cond .. => 4 | .block .. => 5 | .loop .. => 6
  | .exit .. => 7 | .scope .. => 8 | .ret => 9 | _ => 10

theorem J.seq {x : Code} (hk : kind x = 3) (h : J c F L (.code (cL x) :: .code (cR x) :: k)) : J c F L (.code x :: k) := fun a w hF hs =>
  Go1.of_steps (fun cs => by
    cases x <;> simp only [kind, reduceCtorEq, Nat.reduceEqDiff, Nat.succ_ne_self] at hk
    case seq => exact .one step_seq
    case region id ops d => cases d <;> simp [kind] at hk) (h a w hF hs)
theorem J.skip {x : Code} (hk : kind x = 0) (h : J c F L k) : J c F L (.code x :: k) := fun a w hF hs =>
  Go1.of_steps (fun cs => by
    cases x <;> simp only [kind, reduceCtorEq, Nat.reduceEqDiff, Nat.succ_ne_self] at hk
    case skip => exact .one step_skip
    case region id ops d => cases d <;> simp [kind] at hk) (h a w hF hs)
theorem J.block {x : Code} (hk : kind x = 5) (h : J c F L (.code (cL x) :: .inBlock (cId x) :: k)) : J c F L (.code x :: k) := fun a w hF hs =>
  Go1.of_steps (fun cs => by
    cases x <;> simp only [kind, reduceCtorEq, Nat.reduceEqDiff, Nat.succ_ne_self] at hk
    case block => exact .one step_block
    case region id ops d => cases d <;> simp [kind] at hk) (h a w hF hs)
theorem J.inBlock {id : Nat} (h : J c F L k) : J c F L (.inBlock id :: k) := fun a w hF hs => Go1.of_steps (fun _ => .one step_inBlock) (h a w hF hs)
theorem J.exit {x : Code} {k' : List Item} (hk : kind x = 7) (he : exitTo (cId x) k = some k') (h : J c F L k') : J c F L (.code x :: k) := fun a w hF hs =>
  Go1.of_steps (fun cs => by
    cases x <;> simp only [kind, reduceCtorEq, Nat.reduceEqDiff, Nat.succ_ne_self] at hk
    case exit => exact .one (step_exit he)
    case region id ops d => cases d <;> simp [kind] at hk) (h a w hF hs)
theorem J.condT {x : Code} (hk : kind x = 4) (hv : ev F (cOp x) = some (.bool true)) (h : J c F L (.code (cL x) :: k)) : J c F L (.code x :: k) := fun a w hF hs => by
  have hv' := hF.ev _ _ hv
  refine Go1.of_steps (fun cs => ?_) (h a w hF hs)
  cases x <;> simp only [kind, reduceCtorEq, Nat.reduceEqDiff, Nat.succ_ne_self] at hk
  case cond => exact .one (step_cond (t := true) hv')
  case region id ops d => cases d <;> simp [kind] at hk
theorem J.condF {x : Code} (hk : kind x = 4) (hv : ev F (cOp x) = some (.bool false)) (h : J c F L (.code (cR x) :: k)) : J c F L (.code x :: k) := fun a w hF hs => by
  have hv' := hF.ev _ _ hv
  refine Go1.of_steps (fun cs => ?_) (h a w hF hs)
  cases x <;> simp only [kind, reduceCtorEq, Nat.reduceEqDiff, Nat.succ_ne_self] at hk
  case cond => exact .one (step_cond (t := false) hv')
  case region id ops d => cases d <;> simp [kind] at hk
theorem J.cond {x : Code} {b : Bool} (hk : kind x = 4) (hv : ev F (cOp x) = some (.bool b)) (ht : b = true → J c F L (.code (cL x) :: k)) (hf : b = false → J c F L (.code (cR x) :: k)) : J c F L (.code x :: k) := by
  cases b
  · exact J.condF hk hv (hf rfl)
  · exact J.condT hk hv (ht rfl)
/-- A loop: a state 'i' gives the frame and the heap at its head; a measure. -/
theorem J.loop {x : Code} {ι : Type} (good : ι → Prop) (I : ι → Fr) (H : ι → List Asn) (μ : ι → Nat) (i0 : ι) (hk : kind x = 6)
    (hF : Picks F (I i0)) (hL : ∀ h, Sat h L → Sat h (H i0)) (hg : good i0)
    (body : ∀ i, good i → (∀ j, good j → μ j < μ i → J c (I j) (H j) (.inLoop (cL x) :: k)) → J c (I i) (H i) (.code (cL x) :: .inLoop (cL x) :: k)) :
    J c F L (.code x :: k) := by
  have key : ∀ m i, μ i = m → good i → J c (I i) (H i) (.code (cL x) :: .inLoop (cL x) :: k) := by
    intro m
    induction m using Nat.strongRecOn with
    | _ m ih =>
      intro i hm hgi
      refine body i hgi fun j hgj hlt => ?_
      have := ih (μ j) (hm ▸ hlt) j rfl hgj
      exact fun a w hF hs => Go1.of_steps (fun _ => .one step_inLoop) (this a w hF hs)
  refine J.weaken hF hL fun a w hF hs => Go1.of_steps (fun cs => ?_) (key _ i0 rfl hg a w hF hs)
  cases x <;> simp only [kind, reduceCtorEq, Nat.reduceEqDiff, Nat.succ_ne_self] at hk
  case loop => exact .one step_loop
  case region id ops d => cases d <;> simp [kind] at hk


def getA (F : Fr) : List ResultVar → Option (List Value)
  | [] => some []
  | .tmp t :: r => match get F t with
    | some v => match getA F r with
      | some vs => some (v :: vs)
      | none => none
    | none => none
  | .cell .. :: _ => none
def tupV : List Value → Value
  | [v] => v
  | vs => .tuple vs.toArray

theorem run_pure {α : Type} (P : Program) (w : World) (a : α) : (Pure.pure a : Sem α).run P w = .ok a w := rfl

theorem getA_len {F : Fr} : ∀ {rs : List ResultVar} {vs : List Value}, getA F rs = some vs → vs.length = rs.length
  | [], vs, h => by simp [getA] at h; subst h; rfl
  | .tmp t :: r, vs, h => by
    simp only [getA] at h
    split at h
    · split at h
      · rename_i us h2; cases h; simp [getA_len h2]
      · cases h
    · cases h
  | .cell _ _ :: _, vs, h => by simp [getA] at h

theorem run_mapM_tmps (P : Program) (w : World) (tmps : Array Value) (F : Fr) (hF : ∀ t v, get F t = some v → tmps.getD t undef = v) (g : ResultVar → Sem Value)
    (hg : ∀ t, g (.tmp t) = Pure.pure (tmps.getD t undef)) :
    ∀ (rs : List ResultVar) (vs : List Value) (acc : List Value), getA F rs = some vs → (List.mapM.loop g rs acc).run P w = .ok (acc.reverse ++ vs) w
  | [], vs, acc, h => by simp [getA] at h; subst h; simp [List.mapM.loop, run_pure]
  | .tmp t :: r, vs, acc, h => by
    simp only [getA] at h
    split at h
    · rename_i v hv
      split at h
      · rename_i us h2
        cases h
        have := run_mapM_tmps P w tmps F hF g hg r us (v :: acc) h2
        have e : List.mapM.loop g (.tmp t :: r) acc = (do let v ← g (.tmp t); List.mapM.loop g r (v :: acc)) := rfl
        rw [e, hg, hF _ _ hv]
        have e2 : (do let v ← (Pure.pure v : Sem Value); List.mapM.loop g r (v :: acc)) = List.mapM.loop g r (v :: acc) := rfl
        rw [e2, this]
        simp
      · cases h
    · cases h
  | .cell _ _ :: _, vs, acc, h => by simp [getA] at h

theorem run_results (fn : Func) (P : Program) (w : World) (tmps : Array Value) (F : Fr) (rs : List ResultVar) (vs : List Value) (hr : fn.results = rs.toArray)
    (hF : ∀ t v, get F t = some v → tmps.getD t undef = v) (h : getA F rs = some vs) : (results fn tmps).run P w = .ok (tupV vs) w := by
  unfold results
  rw [hr]
  have h1 := run_mapM_tmps P w tmps F hF (fun | .tmp t => Pure.pure (tmps.getD t undef) | .cell a t => do loadVar t (← asAddr (tmps.getD a undef))) (fun _ => rfl) rs vs [] h
  rw [Sem.run_bind]
  have e : (Array.mapM (m := Sem) (fun | .tmp t => Pure.pure (tmps.getD t undef) | .cell a t => do loadVar t (← asAddr (tmps.getD a undef))) rs.toArray).run P w = .ok vs.toArray w := by
    rw [List.mapM_toArray]
    simp only [Functor.map, List.mapM]
    rw [Sem.run_bind', h1]
    rfl
  refine (congrArg (fun r => Result.andThen r _) e).trans ?_
  simp only [Result.andThen]
  have hl := getA_len h
  match vs, hl with
  | [], _ => rfl
  | [v], _ => rfl
  | v :: u :: r, _ => rfl

theorem J.ret {x : Code} {vs : List Value} (hk : kind x = 9) (hv : getA F c.res = some vs) (hq : c.Q (tupV vs) L) : J c F L (.code x :: k) := by
  intro a w hF hs fn hf hr cs
  cases x <;> simp only [kind, reduceCtorEq, Nat.reduceEqDiff, Nat.succ_ne_self] at hk
  case region id ops d => cases d <;> simp [kind] at hk
  case ret =>
    exact ⟨_, L, w, _, hq, hs, rfl, .one step_ret, rfl, rfl, by simp [Frame.at, hF.nodef], rfl, fn, hf, run_results fn c.P w a.tmps F c.res vs hr hF.val hv⟩

/-- The end of a body without a 'return'. -/
theorem J.fin {vs : List Value} (hv : getA F c.res = some vs) (hq : c.Q (tupV vs) L) : J c F L [] := by
  intro a w hF hs fn hf hr cs
  exact ⟨_, L, w, _, hq, hs, rfl, .one step_end, rfl, rfl, by simp [Frame.at, hF.nodef], rfl, fn, hf, run_results fn c.P w a.tmps F c.res vs hr hF.val hv⟩

end rules
end Go.KK

/- The text K3. -/
set_option linter.unusedVariables false
set_option linter.unusedSimpArgs false
namespace Go.KK

def aggB (P : Program) (t : TypeId) : Option Bool :=
  match P.underlying t with
  | some (.struct _) => some true
  | some (.array _ _) => some true
  | some _ => some false
  | none => none

class Scl (P : Program) (t : TypeId) : Prop where out : aggB P t = some false
class Agg (P : Program) (t : TypeId) (n : outParam Nat) : Prop where
  agg : aggB P t = some true
  size : (P.info? t).map (·.size) = some n
def fldB (P : Program) (s k : Nat) : Option (Nat × TypeId) :=
  match P.underlying s with
  | some (.struct fs) => match fs[k]? with
    | some f => match P.info? f.type with
      | some i => if i.size = 0 then none else some (f.offset, f.type)
      | none => none
    | none => none
  | _ => none
class Fld (P : Program) (s k : Nat) (off : outParam Nat) (ty : outParam Nat) : Prop where out : fldB P s k = some (off, ty)
def sltB (P : Program) (t : TypeId) : Option (TypeId × Nat × Nat × Value) :=
  match P.underlying t with
  | some (.slice e) => match P.info? e with
    | some i => match i.zero with
      | some z => if z.cells.size = i.size then some (e, i.size, i.bytes, z) else none
      | none => none
    | none => none
  | _ => none
theorem sltB_spec {P : Program} {t e m by_ : Nat} {z : Value} (h : sltB P t = some (e, m, by_, z)) : ∃ i, P.underlying t = some (.slice e) ∧ P.info? e = some i ∧ i.zero = some z ∧ i.size = m ∧ i.bytes = by_ ∧ z.cells.size = m := by
  unfold sltB at h
  split at h
  · rename_i e' hu
    split at h
    · rename_i i hi
      split at h
      · rename_i z' hz
        split at h
        · rename_i hc
          simp only [Option.some.injEq, Prod.mk.injEq] at h
          obtain ⟨rfl, rfl, rfl, rfl⟩ := h
          exact ⟨i, hu, hi, hz, rfl, rfl, hc⟩
        · cases h
      · cases h
    · cases h
  · cases h
class SlT (P : Program) (t : TypeId) (e m by_ : outParam Nat) (z : outParam Value) : Prop where out : sltB P t = some (e, m, by_, z)
def artB (P : Program) (t : TypeId) : Option (Nat × TypeId × Nat) :=
  match P.underlying t with
  | some (.array n e) => match P.info? e with
    | some i => some (n, e, i.size)
    | none => none
  | _ => none
class ArT (P : Program) (t : TypeId) (n e m : outParam Nat) : Prop where out : artB P t = some (n, e, m)

theorem Scl.run {P : Program} {t : TypeId} {w : World} (h : aggB P t = some false) : (isAgg t).run P w = .ok false w := by
  unfold aggB at h
  split at h <;> simp_all [isAgg, underlying, go_sem]
theorem Agg.run {P : Program} {t : TypeId} {w : World} (h : aggB P t = some true) : (isAgg t).run P w = .ok true w := by
  unfold aggB at h
  split at h <;> simp_all [isAgg, underlying, go_sem]
theorem run_sizeOf_of {P : Program} {t : TypeId} {n : Nat} {w : World} (h : (P.info? t).map (·.size) = some n) : (sizeOf t).run P w = .ok n w := by
  cases hi : P.info? t with
  | none => simp [hi] at h
  | some i => simp [hi] at h; subst h; simp [sizeOf, typeInfo, hi, go_sem]

/-- The operation only computes or reads: it yields v in every world that meets L. -/
def Pur (P : Program) (F : Fr) (L : List Asn) (o : Oper) (v : Value) : Prop :=
  ∀ (ρ : Operand → Value) (w : World), (∀ x u, ev F x = some u → ρ x = u) → Sat (hp w) L → (execOp ρ o).run P w = .ok (.value v) w

section
variable {P : Program} {F : Fr} {L : List Asn} {dst : Option Tmp} {ty : TypeId} {pos : String} {aft : Array Edge} {gd : Option (Nat × Bool)}

theorem Pur.move {x : Operand} {v : Value} (h : ev F x = some v) : Pur P F L ⟨dst, .move x, ty, pos, aft, gd⟩ v := fun ρ w hρ _ => by
  simp [execOp, hρ _ _ h, go_sem]
theorem Pur.assign {x : Operand} {v : Value} (h : ev F x = some v) : Pur P F L ⟨dst, .assign x, ty, pos, aft, gd⟩ v := fun ρ w hρ _ => by
  simp [execOp, hρ _ _ h, go_sem]
theorem Pur.pickT {x y z : Operand} {v : Value} (hx : ev F x = some (.bool true)) (hy : ev F y = some v) : Pur P F L ⟨dst, .pick x y z, ty, pos, aft, gd⟩ v := fun ρ w hρ _ => by
  simp [execOp, hρ _ _ hx, hρ _ _ hy, asBool, go_sem]
theorem Pur.pickF {x y z : Operand} {v : Value} (hx : ev F x = some (.bool false)) (hy : ev F z = some v) : Pur P F L ⟨dst, .pick x y z, ty, pos, aft, gd⟩ v := fun ρ w hρ _ => by
  simp [execOp, hρ _ _ hx, hρ _ _ hy, asBool, go_sem]
theorem Pur.fieldAddr {s k off fty : Nat} [hf : Fld P s k off fty] {x : Operand} {b o : Nat} (hx : ev F x = some (.pointer (some ⟨b, o, none⟩))) :
    Pur P F L ⟨dst, .fieldAddr s x k, ty, pos, aft, gd⟩ (.pointer (some ⟨b, o + off, none⟩)) := fun ρ w hρ _ => by
  have h := hf.out
  unfold fldB at h
  split at h
  · rename_i fs hs
    split at h
    · rename_i f hk
      split at h
      · rename_i i hi
        split at h
        · cases h
        · rename_i hz
          simp only [Option.some.injEq, Prod.mk.injEq] at h
          obtain ⟨h1, h2⟩ := h
          subst h1
          have hsz : (sizeOf f.type).run P w = .ok i.size w := run_sizeOf_of (by simp [hi])
          simp [execOp, Instr.fieldAt, hρ _ _ hx, hs, hk, underlying, Instr.sureAddr, fieldPlace, hsz, hz, go_sem]
      · cases h
    · cases h
  · cases h
theorem Pur.load {t : Nat} [hs : Scl P t] {x : Operand} {p : Addr} {v : Value} (hx : ev F x = some (.pointer (some p))) (hc : CellIn L p v) :
    Pur P F L ⟨dst, .load t x, ty, pos, aft, gd⟩ v := fun ρ w hρ hw => by
  have h1 := Scl.run (w := w) hs.out
  have h2 : w.cell? p = some v := hc _ hw
  simp [execOp, hρ _ _ hx, Instr.loadAt, Instr.sureAddr, loadVar, h1, h2, go_sem]

def CellsIn (L : List Asn) (p : Addr) (cs : List Value) : Prop := ∀ h, Sat h L → ∀ j v, cs[j]? = some v → cellH h ⟨p.block, p.off + j, none⟩ = some v
theorem Pur.loadA {t n : Nat} [hs : Agg P t n] {x : Operand} {p : Addr} {cs : List Value} (hx : ev F x = some (.pointer (some p))) (hp : p.spot = none) (hn : cs.length = n) (hc : CellsIn L p cs) :
    Pur P F L ⟨dst, .load t x, ty, pos, aft, gd⟩ (.agg cs.toArray) := fun ρ w hρ hw => by
  have h1 := Agg.run (w := w) hs.agg
  have h3 : (sizeOf t).run P w = .ok n w := run_sizeOf_of hs.size
  have h2 := run_loadCells_list (P := P) (w := w) p cs (fun j v hj => by
    have h := hc _ hw j v hj
    rw [cell?_eq]
    have : p.add j = ⟨p.block, p.off + j, none⟩ := by
      unfold Addr.add
      cases p
      simp at hp
      subst hp
      split <;> simp_all
    rw [this]; exact h)
  rw [hn] at h2
  unfold loadCells at h2
  simp [execOp, hρ _ _ hx, Instr.loadAt, Instr.sureAddr, loadVar, h1, h2, h3, go_sem]

theorem Pur.extract {x : Operand} {vs : Array Value} {i : Nat} {v : Value} (hx : ev F x = some (.tuple vs)) (hi : vs[i]? = some v) : Pur P F L ⟨dst, .extract x i, ty, pos, aft, gd⟩ v := fun ρ w hρ _ => by
  simp [execOp, hρ _ _ hx, Instr.extract, hi, go_sem]
/-- The place of an element, of a part. -/
def el (a : Option Addr) (m i : Nat) : Addr := ⟨(a.getD default).block, (a.getD default).off + i * m, none⟩

theorem Pur.indexAddr {t e m by_ : Nat} {z : Value} [ha : SlT P t e m by_ z] {x ix : Operand} {a : Option Addr} {len cap : Nat} {k : IntKind} {i : Int} (hx : ev F x = some (.slice a len cap)) (hi : ev F ix = some (.int k i))
    (h0 : 0 ≤ i) (hn : i < (len : Int)) (hs : ∀ h, Sat h L → ∃ b o, a = some ⟨b, o, none⟩) :
    Pur P F L ⟨dst, .indexAddr t x ix, ty, pos, aft, gd⟩ (.pointer (some (el a m i.toNat))) := fun ρ w hρ hw => by
  obtain ⟨b, o, ha'⟩ := hs _ hw
  subst ha'
  obtain ⟨i', hu, hi', hz', rfl, rfl, _⟩ := sltB_spec ha.out
  have h3 : (sizeOf e).run P w = .ok i'.size w := run_sizeOf_of (by simp [hi'])
  simp [execOp, Instr.indexAt, hρ _ _ hx, hρ _ _ hi, asIntOf, hu, underlying, h0, hn, h3, go_sem]
  simp [el]

/-! Arithmetic, comparison. -/
theorem Pur.add {t t' : Nat} {x y : Operand} {k : IntKind} {a b : Int} (hx : ev F x = some (.int k a)) (hy : ev F y = some (.int k b)) (h : k.wrap (a + b) = a + b) :
    Pur P F L ⟨dst, .binOp .add t x y t', ty, pos, aft, gd⟩ (.int k (a + b)) := fun ρ w hρ _ => by
  simp [execOp, hρ _ _ hx, hρ _ _ hy, eqGuard, binOp, Op.intArith, h, go_sem]
theorem Pur.lss {t t' : Nat} {x y : Operand} {k : IntKind} {a b : Int} (hx : ev F x = some (.int k a)) (hy : ev F y = some (.int k b)) :
    Pur P F L ⟨dst, .binOp .lss t x y t', ty, pos, aft, gd⟩ (.bool (decide (a < b))) := fun ρ w hρ _ => by
  simp [execOp, hρ _ _ hx, hρ _ _ hy, eqGuard, binOp, Op.intCmp, go_sem]
theorem Pur.leq {t t' : Nat} {x y : Operand} {k : IntKind} {a b : Int} (hx : ev F x = some (.int k a)) (hy : ev F y = some (.int k b)) :
    Pur P F L ⟨dst, .binOp .leq t x y t', ty, pos, aft, gd⟩ (.bool (decide (a ≤ b))) := fun ρ w hρ _ => by
  simp [execOp, hρ _ _ hx, hρ _ _ hy, eqGuard, binOp, Op.intCmp, go_sem]
theorem Pur.gtr {t t' : Nat} {x y : Operand} {k : IntKind} {a b : Int} (hx : ev F x = some (.int k a)) (hy : ev F y = some (.int k b)) :
    Pur P F L ⟨dst, .binOp .gtr t x y t', ty, pos, aft, gd⟩ (.bool (decide (b < a))) := fun ρ w hρ _ => by
  simp [execOp, hρ _ _ hx, hρ _ _ hy, eqGuard, binOp, Op.intCmp, go_sem]
theorem Pur.geq {t t' : Nat} {x y : Operand} {k : IntKind} {a b : Int} (hx : ev F x = some (.int k a)) (hy : ev F y = some (.int k b)) :
    Pur P F L ⟨dst, .binOp .geq t x y t', ty, pos, aft, gd⟩ (.bool (decide (b ≤ a))) := fun ρ w hρ _ => by
  simp [execOp, hρ _ _ hx, hρ _ _ hy, eqGuard, binOp, Op.intCmp, go_sem]
theorem Pur.eqlI {t t' : Nat} {x y : Operand} {k : IntKind} {a b : Int} (hx : ev F x = some (.int k a)) (hy : ev F y = some (.int k b)) :
    Pur P F L ⟨dst, .binOp .eql t x y t', ty, pos, aft, gd⟩ (.bool (decide (a = b))) := fun ρ w hρ _ => by
  simp [execOp, hρ _ _ hx, hρ _ _ hy, eqGuard, binOp, Op.intCmp, go_sem]
  rw [Bool.eq_iff_iff]; simp
theorem Pur.neqI {t t' : Nat} {x y : Operand} {k : IntKind} {a b : Int} (hx : ev F x = some (.int k a)) (hy : ev F y = some (.int k b)) :
    Pur P F L ⟨dst, .binOp .neq t x y t', ty, pos, aft, gd⟩ (.bool (decide (a ≠ b))) := fun ρ w hρ _ => by
  simp [execOp, hρ _ _ hx, hρ _ _ hy, eqGuard, binOp, Op.intCmp, go_sem]
  rw [Bool.eq_iff_iff]; simp
theorem Pur.not {t : Nat} {x : Operand} {b : Bool} (hx : ev F x = some (.bool b)) : Pur P F L ⟨dst, .unOp .not t x, ty, pos, aft, gd⟩ (.bool (!b)) := fun ρ w hρ _ => by
  simp [execOp, hρ _ _ hx, Op.unary, go_sem]
end
end Go.KK

/- The text K4. -/
set_option linter.unusedVariables false
set_option linter.unusedSimpArgs false
namespace Go.KK

/-- An operation with an effect: it yields a value, and then the heap meets a list of assertions, of which Q speaks. -/
def Eff (P : Program) (F : Fr) (L : List Asn) (o : Oper) (Q : Value → List Asn → Prop) : Prop :=
  ∀ (a : Act) (w : World), True → (∀ x u, ev F x = some u → a.eval x = u) → Sat (hp w) L →
    ∀ (next : Act → World → Prop) (Qx : Exit → Act → World → Prop), (∀ v w' L', Q v L' → Sat (hp w') L' → env w' = env w → next (a.put o.dst v) w') → o.wp P a w next Qx

section
variable {P : Program} {F : Fr} {L : List Asn} {o : Oper}

theorem Pur.eff {v : Value} (h : Pur P F L o v) : Eff P F L o (fun u M => u = v ∧ M = L) := fun a w hd ha hs next Qx hn => by
  unfold Oper.wp
  rw [h a.eval w ha hs]
  exact hn v w L ⟨rfl, rfl⟩ hs rfl

theorem Eff.of_run {Q : Value → List Asn → Prop} (h : ∀ (ρ : Operand → Value) (w : World), (∀ x u, ev F x = some u → ρ x = u) → Sat (hp w) L → ∃ v w' M, (execOp ρ o).run P w = .ok (.value v) w' ∧ Q v M ∧ env w' = env w ∧ Sat (hp w') M) : Eff P F L o Q :=
  fun a w hd ha hs next Qx hn => by
    obtain ⟨v, w', M, hr, hq, hv, hs'⟩ := h a.eval w ha hs
    unfold Oper.wp
    rw [hr]
    exact hn v w' M hq hs' hv
theorem Eff.of_skip {Q : Value → List Asn → Prop} (h : ∀ (ρ : Operand → Value) (w : World), (∀ x u, ev F x = some u → ρ x = u) → Sat (hp w) L → ∃ w' M, (execOp ρ o).run P w = .ok .skip w' ∧ Q undef M ∧ env w' = env w ∧ Sat (hp w') M) : Eff P F L o Q :=
  fun a w hd ha hs next Qx hn => by
    obtain ⟨w', M, hr, hq, hv, hs'⟩ := h a.eval w ha hs
    unfold Oper.wp
    rw [hr]
    exact hn undef w' M hq hs' hv
end

def evL (F : Fr) : List Operand → Option (List Value)
  | [] => some []
  | x :: xs => match ev F x with
    | some v => match evL F xs with
      | some vs => some (v :: vs)
      | none => none
    | none => none
theorem evL_ok {F : Fr} {ρ : Operand → Value} (hρ : ∀ x u, ev F x = some u → ρ x = u) : ∀ {xs : List Operand} {vs : List Value}, evL F xs = some vs → xs.map ρ = vs
  | [], vs, h => by simp [evL] at h; subst h; rfl
  | x :: xs, vs, h => by
    simp only [evL] at h
    split at h
    · rename_i v hv
      split at h
      · rename_i us hu
        cases h
        simp [hρ _ _ hv, evL_ok hρ hu]
      · cases h
    · cases h

/-- The callee has a body, and is not the one function that the model serves by itself. -/
def hasBody (P : Program) (f : Nat) : Bool :=
  match P.funcs[f]? with
  | some fn => fn.body.isSome && !(fn.name == "runtime.NumGoroutine")
  | none => false
class Body (P : Program) (f : Nat) : Prop where out : hasBody P f = true

section
variable {P : Program} {F : Fr} {L : List Asn} {dst : Option Tmp} {ty : TypeId} {pos : String} {aft : Array Edge} {gd : Option (Nat × Bool)}

theorem Eff.call {f : Nat} [hb : Body P f] {xs : List Operand} {vs : List Value} {tys : Array TypeId} {Q : Value → List Asn → Prop}
    (hv : evL F xs = some vs) (h : CallS P f vs.toArray L Q) :
    Eff P F L ⟨dst, .call ⟨.value (.func f), xs.toArray, tys⟩, ty, pos, aft, gd⟩ Q := fun a w hd ha hs next Qx hn => by
  have h0 := hb.out
  unfold hasBody at h0
  split at h0
  · rename_i fn hf
    simp only [Bool.and_eq_true, Bool.not_eq_true'] at h0
    obtain ⟨h1, h2⟩ := h0
    have hbn : fn.body.isNone = false := by cases hbb : fn.body <;> simp_all
    have hargs : (xs.toArray.map a.eval) = vs.toArray := by
      have := evL_ok ha hv
      simp [this]
    have hfe : a.eval (.func f) = .func (.func f) #[] #[] := rfl
    have hr : (execOp a.eval ⟨dst, .call ⟨.value (.func f), xs.toArray, tys⟩, ty, pos, aft, gd⟩).run P w = .ok (.enter f vs.toArray) w := by
      simp [execOp, resolve, hargs, hfe, Deferred.ofValue, invoke, callFunc, hf, hbn, go_sem]
      rw [if_neg (by simpa using h2), if_neg (by cases hbb : fn.body <;> simp_all)]
    unfold Oper.wp
    rw [hr, Oper.upon_enter]
    refine (h w hs).mono fun e w' ⟨v, M, hq, he, hs', hv⟩ => ?_
    subst he
    exact hn v w' M hq hs' hv
  · cases h0
end

/-! Regions in the order of their text. -/
def wantF (ops : List Oper) (F : Fr) (o : Oper) : Option Bool :=
  match o.guard with
  | none => some true
  | some (j, want) => match ops[j]? with
    | some oj => match oj.dst with
      | some t => match get F t with
        | some (.bool b) => some (b == want)
        | some (.tuple _) => some false
        | _ => none
      | none => none
    | none => none

theorem wantF_ok {ops : List Oper} {F : Fr} {o : Oper} {b : Bool} {n : Nat} {a : Act} (hF : OkF n F a) (h : wantF ops F o = some b) : Region.wanted o (yielded ops.toArray a.tmps) = b := by
  unfold wantF at h
  unfold Region.wanted
  cases hg : o.guard with
  | none => simp [hg] at h; simp [h]
  | some p =>
    obtain ⟨j, want⟩ := p
    simp only [hg] at h ⊢
    split at h
    · rename_i oj hj
      split at h
      · rename_i t ht
        split at h
        · rename_i b' hb'
          have h1 := hF.val _ _ hb'
          have h2 : a.tmps[t]? = some (.bool b') := by
            rw [Array.getD_eq_getD_getElem?] at h1
            cases h3 : a.tmps[t]? with
            | none => simp [h3, undef] at h1
            | some u => simp [h3] at h1; rw [h1]
          simp only [Option.some.injEq] at h
          subst h
          cases b' <;> cases want <;> simp [yielded, hj, ht, h2] <;> rfl
        · rename_i vs hb'
          have h1 := hF.val _ _ hb'
          simp only [Option.some.injEq] at h
          subst h
          have h2 : yielded ops.toArray a.tmps j = none := by
            rw [Array.getD_eq_getD_getElem?] at h1
            cases h3 : a.tmps[t]? with
            | none => simp [yielded, hj, ht, h3]
            | some u => simp [h3] at h1; subst h1; simp [yielded, hj, ht, h3]
          rw [h2]; rfl
        · cases h
      · cases h
    · cases h

def Qk (c : Cx) (k : List Item) (w0 : World) : Exit → Act → World → Prop
  | .normal, a, w => env w = env w0 ∧ Go1 c.P c.f c.res c.Q a w k
  | _, _, _ => False

/-- The operations 'rest' are still to do, of the region 'ops'. -/
def JO (c : Cx) (ops : List Oper) (F : Fr) (L : List Asn) (rest : List Oper) (k : List Item) : Prop :=
  ∀ a w, OkF c.n F a → Sat (hp w) L → wpList c.P ops.toArray (Qk c k w) rest a w

section rules
variable {c : Cx} {F : Fr} {L : List Asn} {k : List Item} {ops rest : List Oper} {o : Oper}

theorem J.region {x : Code} (hk : kind x = 1) (h : JO c (cOps x) F L (cOps x) k) : J c F L (.code x :: k) := fun a w hF hs => by
  cases x <;> simp only [kind, reduceCtorEq, Nat.reduceEqDiff, Nat.succ_ne_self] at hk
  case region id ops d =>
    cases d <;> simp only [kind, reduceCtorEq, Nat.reduceEqDiff] at hk
    intro fn hf hr cs
    have h1 : (Code.region id ops false).wp c.P (Qk c k w) a w := by
      refine wp_region_list ?_
      have := h a w hF hs
      simpa [cOps] using this
    obtain ⟨e, a', w', hq, harr⟩ := h1 (bse c.f) k cs
    cases e <;> simp only [Qk] at hq
    obtain ⟨v, L', w'', fr, q, s, hv, st, e', l⟩ := hq.2 fn hf hr cs
    exact ⟨v, L', w'', fr, q, s, hv.trans hq.1, Steps.trans harr st, e', l⟩

theorem Qk.to {c : Cx} {k : List Item} {w w' : World} (h : env w' = env w) : Qk c k w' = Qk c k w := by
  funext e a u
  cases e <;> simp only [Qk, h]

theorem JO.nil (h : J c F L k) : JO c ops F L [] k := fun a w hF hs => wpList_nil ⟨rfl, h a w hF hs⟩

theorem JO.eff {d : Nat} {Q : Value → List Asn → Prop} (hw : wantF ops F o = some true) (hd : o.dst = some d) (hn : Nat.blt d c.n = true) (he : Eff c.P F L o Q)
    (h : ∀ v M, Q v M → JO c ops ((d, v) :: F) M rest k) : JO c ops F L (o :: rest) k := fun a w hF hs => by
  unfold wpList
  rw [if_pos (wantF_ok hF hw)]
  refine .inl (he a w trivial hF.ev hs _ _ fun v w' M hq hs' hv => ?_)
  rw [hd, ← Qk.to hv]
  exact h v M hq _ _ (hF.put hn) hs'
theorem JO.effN {Q : Value → List Asn → Prop} (hw : wantF ops F o = some true) (hd : o.dst = none) (he : Eff c.P F L o Q)
    (h : ∀ v M, Q v M → JO c ops F M rest k) : JO c ops F L (o :: rest) k := fun a w hF hs => by
  unfold wpList
  rw [if_pos (wantF_ok hF hw)]
  refine .inl (he a w trivial hF.ev hs _ _ fun v w' M hq hs' hv => ?_)
  rw [hd, ← Qk.to hv]
  exact h v M hq _ _ hF.none hs'
theorem JO.pur {d : Nat} {v : Value} (hw : wantF ops F o = some true) (hd : o.dst = some d) (hn : Nat.blt d c.n = true) (hp : Pur c.P F L o v)
    (h : JO c ops ((d, v) :: F) L rest k) : JO c ops F L (o :: rest) k :=
  JO.eff hw hd hn hp.eff (fun _ _ ⟨e1, e2⟩ => by subst e1; subst e2; exact h)
theorem JO.no {d : Nat} (hw : wantF ops F o = some false) (hd : o.dst = some d) (hn : Nat.blt d c.n = true) (h : JO c ops ((d, undef) :: F) L rest k) : JO c ops F L (o :: rest) k := fun a w hF hs => by
  unfold wpList
  rw [if_neg (by rw [wantF_ok hF hw]; simp), hd]
  exact h _ _ (hF.put hn) hs
theorem JO.imp {M : List Asn} (hL : ∀ h, Sat h L → Sat h M) (h : JO c ops F M rest k) : JO c ops F L rest k := fun a w hF' hs => h a w hF' (hL _ hs)
theorem JO.perm {M : List Asn} (hL : L.Perm M) (h : JO c ops F M rest k) : JO c ops F L rest k := fun a w hF' hs => h a w hF' (hs.perm hL)
theorem JO.picks {G : Fr} (hF : Picks F G) (h : JO c ops G L rest k) : JO c ops F L rest k := fun a w hF' hs => h a w (hF'.picks hF) hs
theorem JO.fact {p : Prop} (hp : ∀ h, Sat h L → p) (h : p → JO c ops F L rest k) : JO c ops F L rest k := fun a w hF' hs => h (hp _ hs) a w hF' hs
theorem JO.star {M : List Asn} (h : JO c ops F (M ++ L) rest k) : JO c ops F (star M :: L) rest k := fun a w hF' hs => h a w hF' (Sat.star.1 hs)
end rules
end Go.KK

/- The text K5. -/
set_option linter.unusedVariables false
set_option linter.unusedSimpArgs false
namespace Go.KK

def JQ (c : Cx) (ops : List Oper) (F : Fr) (L : List Asn) (rest : List Oper) (k : List Item) : Prop :=
  ∀ a w0, OkF c.n F a → wpQuiet c.P ops.toArray (fun w => Sat (hp w) L ∧ env w = env w0) (fun a => ∀ w, Sat (hp w) L ∧ env w = env w0 → Qk c k w0 .normal a w) rest a

section rules
variable {c : Cx} {F : Fr} {L : List Asn} {k : List Item} {ops rest : List Oper} {o : Oper}

theorem JQ.nil (h : J c F L k) : JQ c ops F L [] k := fun a w0 hF => wpQuiet_nil fun w hs => ⟨hs.2, h a w hF hs.1⟩
theorem JQ.pur {d : Nat} {v : Value} (hw : wantF ops F o = some true) (hd : o.dst = some d) (hn : Nat.blt d c.n = true) (hp : Pur c.P F L o v)
    (h : JQ c ops ((d, v) :: F) L rest k) : JQ c ops F L (o :: rest) k := fun a w0 hF => by
  unfold wpQuiet
  rw [if_pos (wantF_ok hF hw)]
  refine ⟨v, fun w hs => ?_, ?_⟩
  · unfold Oper.quietAt
    rw [hp a.eval w hF.ev hs.1]
    exact ⟨rfl, rfl⟩
  · rw [hd]; exact h _ w0 (hF.put hn)
theorem JQ.no {d : Nat} (hw : wantF ops F o = some false) (hd : o.dst = some d) (hn : Nat.blt d c.n = true) (h : JQ c ops ((d, undef) :: F) L rest k) : JQ c ops F L (o :: rest) k := fun a w0 hF => by
  unfold wpQuiet
  rw [if_neg (by rw [wantF_ok hF hw]; simp), hd]
  exact h _ w0 (hF.put hn)
theorem JQ.call {f d : Nat} [hb : Body c.P f] {ty : TypeId} {pos : String} {aft : Array Edge} {gd : Option (Nat × Bool)} {xs : List Operand} {vs : List Value} {tys : Array TypeId} {v0 : Value}
    (hw : wantF ops F ⟨some d, .call ⟨.value (.func f), xs.toArray, tys⟩, ty, pos, aft, gd⟩ = some true) (hn : Nat.blt d c.n = true) (hv : evL F xs = some vs) (hc : CallS c.P f vs.toArray L (fun v M => v = v0 ∧ ∀ h, Sat h M → Sat h L))
    (h : JQ c ops ((d, v0) :: F) L rest k) : JQ c ops F L (⟨some d, .call ⟨.value (.func f), xs.toArray, tys⟩, ty, pos, aft, gd⟩ :: rest) k := fun a w0 hF => by
  unfold wpQuiet
  rw [if_pos (wantF_ok hF hw)]
  refine ⟨v0, fun w hs => ?_, h _ w0 (hF.put hn)⟩
  have h0 := hb.out
  unfold hasBody at h0
  split at h0
  · rename_i fn hf
    simp only [Bool.and_eq_true, Bool.not_eq_true'] at h0
    obtain ⟨h1, h2⟩ := h0
    have hargs : (xs.toArray.map a.eval) = vs.toArray := by
      have := evL_ok hF.ev hv
      simp [this]
    have hfe : a.eval (.func f) = .func (.func f) #[] #[] := rfl
    have hr : (execOp a.eval ⟨some d, .call ⟨.value (.func f), xs.toArray, tys⟩, ty, pos, aft, gd⟩).run c.P w = .ok (.enter f vs.toArray) w := by
      simp [execOp, resolve, hargs, hfe, Deferred.ofValue, invoke, callFunc, hf, go_sem]
      rw [if_neg (by simpa using h2), if_neg (by cases hbb : fn.body <;> simp_all)]
    unfold Oper.quietAt
    rw [hr]
    refine ⟨rfl, (hc w hs.1).mono fun e w' ⟨v, M, ⟨hq, hM⟩, he, hs', hv⟩ => ?_⟩
    subst hq
    exact ⟨he, hM _ hs', hv.trans hs.2⟩
  · cases h0

def lst (n : Nat) : List Nat → Array Bool
  | [] => Array.replicate n false
  | i :: is => (lst n is).setIfInBounds i true

end rules
end Go.KK

/- The text K6. -/
set_option linter.unusedVariables false
set_option linter.unusedSimpArgs false
namespace Go.KK

/-- How an element lies in cells. -/
structure Enc (α : Type) where
  T : TypeId
  m : Nat
  enc : α → List Value
  len : ∀ x, (enc x).length = m
  one : ∀ x v, v ∈ enc x → v.oneCell' = true

def Enc.all {α : Type} (E : Enc α) (xs : List α) : List Value := xs.flatMap E.enc
theorem Enc.all_len {α : Type} (E : Enc α) (xs : List α) : (E.all xs).length = xs.length * E.m := by
  unfold Enc.all
  induction xs with
  | nil => simp
  | cons x xs ih => simp [List.flatMap_cons, ih, E.len, Nat.add_mul, Nat.add_comm]
theorem Enc.all_append {α : Type} (E : Enc α) (xs ys : List α) : E.all (xs ++ ys) = E.all xs ++ E.all ys := by simp [Enc.all]
theorem Enc.all_get {α : Type} (E : Enc α) : ∀ (xs : List α) (i k : Nat) (x : α), xs[i]? = some x → k < E.m → (E.all xs)[i * E.m + k]? = (E.enc x)[k]?
  | [], i, k, x, h, _ => by simp at h
  | y :: ys, 0, k, x, h, hk => by
    simp at h; subst h
    simp only [Enc.all, List.flatMap_cons, Nat.zero_mul, Nat.zero_add]
    rw [List.getElem?_append_left (by rw [E.len]; exact hk)]
  | y :: ys, i + 1, k, x, h, hk => by
    simp only [List.getElem?_cons_succ] at h
    have ih := E.all_get ys i k x h hk
    have e : E.all (y :: ys) = E.enc y ++ E.all ys := by simp [Enc.all]
    rw [e, List.getElem?_append_right (by rw [E.len, Nat.add_mul]; omega), E.len]
    have : (i + 1) * E.m + k - E.m = i * E.m + k := by rw [Nat.add_mul]; omega
    rw [this]; exact ih
theorem Enc.all_one {α : Type} (E : Enc α) (xs : List α) : ∀ v ∈ E.all xs, v.oneCell' = true := by
  intro v hv
  simp only [Enc.all, List.mem_flatMap] at hv
  obtain ⟨x, _, h⟩ := hv
  exact E.one x v h

/-- What a slice reads as. -/
def slR {α : Type} (E : Enc α) (h : Hp) (a : Option Addr) (xs : List α) : Prop :=
  xs = [] ∨ ∃ b off C T fz, a = some ⟨b, off, none⟩ ∧ h b = some (.cells C T fz) ∧ ∀ j v, (E.all xs)[j]? = some v → C[off + j]? = some v

/-- A slice over an array of its own. -/
@[irreducible] def sl {α : Type} (E : Enc α) (a : Option Addr) (cap : Nat) (xs : List α) : Asn := fun h =>
  (a = none ∧ cap = 0 ∧ xs = []) ∨ ∃ b spare, a = some ⟨b, 0, none⟩ ∧ xs.length ≤ cap ∧ cap ≤ maxLen ∧ spare.length = (cap - xs.length) * E.m ∧ h b = some (.cells (E.all xs ++ spare).toArray E.T (0, 0))

theorem sl_iff {α : Type} {E : Enc α} {a : Option Addr} {cap : Nat} {xs : List α} {h : Hp} : sl E a cap xs h ↔
    ((a = none ∧ cap = 0 ∧ xs = []) ∨ ∃ b spare, a = some ⟨b, 0, none⟩ ∧ xs.length ≤ cap ∧ cap ≤ maxLen ∧ spare.length = (cap - xs.length) * E.m ∧ h b = some (.cells (E.all xs ++ spare).toArray E.T (0, 0))) := by
  unfold sl; exact Iff.rfl

class SlIn {α : outParam Type} (E : outParam (Enc α)) (L : List Asn) (a : Option Addr) (xs : outParam (List α)) : Prop where
  out : ∀ h, Sat h L → slR E h a xs

theorem slR.mono {α : Type} {E : Enc α} {h h' : Hp} {a : Option Addr} {xs : List α} (hl : Hp.le h h') (hs : slR E h a xs) : slR E h' a xs := by
  rcases hs with h0 | ⟨b, off, C, T, fz, ha, hb, hc⟩
  · exact .inl h0
  · exact .inr ⟨b, off, C, T, fz, ha, hl _ _ hb, hc⟩
theorem sl.slR {α : Type} {E : Enc α} {a : Option Addr} {cap : Nat} {xs : List α} {h : Hp} (hs : sl E a cap xs h) : slR E h a xs := by
  rcases sl_iff.1 hs with ⟨_, _, h0⟩ | ⟨b, spare, ha, h1, h2, h3, hb⟩
  · exact .inl h0
  · refine .inr ⟨b, 0, _, _, _, ha, hb, fun j v hj => ?_⟩
    have hlt := (List.getElem?_eq_some_iff.1 hj).1
    simp only [Nat.zero_add, List.getElem?_toArray]
    rw [List.getElem?_append_left hlt, hj]

instance SlIn.head {α : Type} {E : Enc α} {L : List Asn} {a : Option Addr} {cap : Nat} {xs : List α} : SlIn E (sl E a cap xs :: L) a xs := ⟨fun h hs => by
  obtain ⟨h1, l, s⟩ := hs.head
  exact (sl.slR s).mono l⟩
instance (priority := 900) SlIn.tail {α : Type} {E : Enc α} {A : Asn} {L : List Asn} {a : Option Addr} {xs : List α} [hh : SlIn E L a xs] : SlIn E (A :: L) a xs := ⟨fun h hs => hh.out h hs.tail⟩
theorem SlIn.mem {α : Type} {E : Enc α} {A : Asn} {L : List Asn} {a : Option Addr} {xs : List α} (hA : ∀ h, A h → KK.slR E h a xs) (hm : A ∈ L) : SlIn E L a xs := ⟨fun h hs => by
  obtain ⟨h1, l, s⟩ := Sat.mem hm hs
  exact (hA _ s).mono l⟩
theorem SlIn.some {α : Type} {E : Enc α} {L : List Asn} {a : Option Addr} {xs : List α} (hh : SlIn E L a xs) (hx : 0 < xs.length) : ∀ h, Sat h L → ∃ b o, a = Option.some ⟨b, o, none⟩ := fun h hs => by
  rcases hh.out h hs with h0 | ⟨b, off, C, T, fz, ha, _⟩
  · subst h0; simp at hx
  · exact ⟨b, off, ha⟩

theorem CellIn.el {α : Type} {E : Enc α} {L : List Asn} {a : Option Addr} {xs : List α} {m i k : Nat} {x : α} {v : Value} [hh : SlIn E L a xs] (hm : E.m = m) (hx : xs[i]? = some x) (hv : (E.enc x)[k]? = some v) :
    CellIn L ⟨(KK.el a m i).block, (KK.el a m i).off + k, none⟩ v := fun h hs => by
  subst hm
  rcases hh.out h hs with h0 | ⟨b, off, C, T, fz, ha, hb, hc⟩
  · subst h0; simp at hx
  · subst ha
    have hk : k < E.m := by rw [← E.len x]; exact (List.getElem?_eq_some_iff.1 hv).1
    have := hc (i * E.m + k) v (by rw [E.all_get xs i k x hx hk, hv])
    simp [cellH, KK.el, hb, Nat.add_assoc, this]
theorem CellIn.el0 {α : Type} {E : Enc α} {L : List Asn} {a : Option Addr} {xs : List α} {m i : Nat} {x : α} {v : Value} [hh : SlIn E L a xs] (hm : E.m = m) (hx : xs[i]? = some x) (hv : (E.enc x)[0]? = some v) :
    CellIn L (KK.el a m i) v := fun h hs => by
  have := CellIn.el (L := L) (a := a) hm hx hv h hs
  exact this
theorem CellsIn.el {α : Type} {E : Enc α} {L : List Asn} {a : Option Addr} {xs : List α} {m i : Nat} {x : α} [hh : SlIn E L a xs] (hm : E.m = m) (hx : xs[i]? = some x) :
    CellsIn L (KK.el a m i) (E.enc x) := fun h hs j v hv => CellIn.el (L := L) (a := a) hm hx hv h hs
theorem CellsIn.blk {L : List Asn} {b : Nat} {cs : List Value} {T : TypeId} {fz : Nat × Nat} [hb : BlkIn L b (.cells cs.toArray T fz)] : CellsIn L ⟨b, 0, none⟩ cs := fun h hh j v hv => by
  have := hb.out h hh
  simp [cellH, this, hv]

section
variable {P : Program} {F : Fr} {L : List Asn} {dst : Option Tmp} {ty : TypeId} {pos : String} {aft : Array Edge} {gd : Option (Nat × Bool)}

theorem Pur.idx {α : Type} {E : Enc α} {t e m by_ : Nat} {z : Value} [ha : SlT P t e m by_ z] {x ix : Operand} {a : Option Addr} {n cap : Nat} {kd : IntKind} {i : Int} {k : Nat} {xs : List α} (hx : ev F x = some (.slice a n cap)) (hi : ev F ix = some (.int kd i))
    [hs : SlIn E L a xs] (hm : E.m = m) (hn : n = xs.length) (hik : i = (k : Int)) (hk : k < xs.length) :
    Pur P F L ⟨dst, .indexAddr t x ix, ty, pos, aft, gd⟩ (.pointer (some (el a m k))) := by
  subst hm; subst hik; subst hn
  have := Pur.indexAddr (P := P) (F := F) (L := L) (dst := dst) (ty := ty) (pos := pos) (aft := aft) (gd := gd) (t := t) (x := x) (ix := ix) hx hi (by omega) (by omega) (SlIn.some hs (by omega))
  simpa using this

theorem Pur.len {t e m by_ : Nat} {z : Value} [ha : SlT P t e m by_ z] {x : Operand} {a : Option Addr} {n cap : Nat} (hx : ev F x = some (.slice a n cap)) :
    Pur P F L ⟨dst, .call ⟨.builtin .len, #[x], #[t]⟩, ty, pos, aft, gd⟩ (.int .i64 n) := fun ρ w hρ _ => by
  obtain ⟨i', hu, _⟩ := sltB_spec ha.out
  simp [execOp, resolve, invoke, builtin, Builtin.len_, hρ _ _ hx, hu, underlying, goInt, go_sem]

theorem Pur.slice {t e m by_ : Nat} {z : Value} [ha : SlT P t e m by_ z] {x : Operand} {lo hi : Option Operand} {a : Option Addr} {n cap l h : Nat}
    (hx : ev F x = some (.slice a n cap)) (hlo : (lo = none ∧ l = 0) ∨ ∃ y kd, lo = some y ∧ ev F y = some (.int kd l)) (hhi : (hi = none ∧ h = n) ∨ ∃ y kd, hi = some y ∧ ev F y = some (.int kd h))
    (h1 : l ≤ h) (h2 : h ≤ cap) :
    Pur P F L ⟨dst, .slice t x lo hi none, ty, pos, aft, gd⟩ (.slice (if cap = l then a else a.map (·.add (l * m))) (h - l) (cap - l)) := fun ρ w hρ _ => by
  obtain ⟨i', hu, hi', hz', rfl, rfl, _⟩ := sltB_spec ha.out
  have h3 : (sizeOf e).run P w = .ok i'.size w := run_sizeOf_of (by simp [hi'])
  have hb1 : ∀ y kd, ev F y = some (.int kd h) → (Instr.sliceBound (ρ y) cap .sliceAcap).run P w = .ok h w := fun y kd hy => by
    have : (h : Int) ≤ cap := by omega
    simp [Instr.sliceBound, hρ _ _ hy, asIntOf, this, go_sem]
  have hb2 : ∀ y kd, ev F y = some (.int kd l) → (Instr.sliceBound (ρ y) h .sliceB).run P w = .ok l w := fun y kd hy => by
    have : (l : Int) ≤ h := by omega
    simp [Instr.sliceBound, hρ _ _ hy, asIntOf, this, go_sem]
  rcases hlo with ⟨rfl, rfl⟩ | ⟨y, kd, rfl, hy⟩ <;> rcases hhi with ⟨rfl, rfl⟩ | ⟨y', kd', rfl, hy'⟩
  · simp [execOp, Instr.sliceAt, Instr.slice, Instr.sliceBounds, hρ _ _ hx, hu, underlying, h3, go_sem]
  · simp [execOp, Instr.sliceAt, Instr.slice, Instr.sliceBounds, hρ _ _ hx, hu, underlying, h3, hb1 _ _ hy', go_sem]
  · simp [execOp, Instr.sliceAt, Instr.slice, Instr.sliceBounds, hρ _ _ hx, hu, underlying, h3, hb2 _ _ hy, go_sem]
  · simp [execOp, Instr.sliceAt, Instr.slice, Instr.sliceBounds, hρ _ _ hx, hu, underlying, h3, hb1 _ _ hy', hb2 _ _ hy, go_sem]

class PtT (P : Program) (t : TypeId) : Prop where out : P.underlying t = some (.pointer (P.pointee t))
class BoT (P : Program) (t : TypeId) : Prop where out : P.underlying t = some .bool
end

/-! Pieces of a list of assertions, turned in place. -/
inductive Rep (A B : Asn) : List Asn → List Asn → Prop
  | head {L : List Asn} : Rep A B (A :: L) (B :: L)
  | tail {C : Asn} {L L' : List Asn} : Rep A B L L' → Rep A B (C :: L) (C :: L')

theorem Rep.perm {A B : Asn} {L L' : List Asn} (h : Rep A B L L') : ∃ R, L.Perm (A :: R) ∧ L'.Perm (B :: R) := by
  induction h with
  | head => exact ⟨_, .refl _, .refl _⟩
  | @tail C L L' _ ih =>
    obtain ⟨R, h1, h2⟩ := ih
    exact ⟨C :: R, (h1.cons C).trans (.swap _ _ _), (h2.cons C).trans (.swap _ _ _)⟩

/-- The law behind each effect: outside what A owns nothing that was there turns, and what B owns is what A owned, or new. -/
theorem Sat.frame {A B : Asn} {L : List Asn} {h h' : Hp} (hs : Sat h (A :: L))
    (hf : ∀ h1, A h1 → Hp.le h1 h → ∃ h1', B h1' ∧ Hp.le h1' h' ∧ (∀ b, h1' b ≠ none → h1 b ≠ none ∨ h b = none) ∧ (∀ b o, h b = some o → h1 b = none → h' b = some o)) : Sat h' (B :: L) := by
  obtain ⟨h1, h2, d, l1, l2, a, s⟩ := hs
  obtain ⟨h1', hb, hl, hd, hk⟩ := hf h1 a l1
  refine ⟨h1', h2, ?_, hl, ?_, hb, s⟩
  · intro b
    cases hb' : h1' b with
    | none => exact .inl rfl
    | some o =>
      right
      rcases hd b (by simp [hb']) with h' | h'
      · rcases d b with h'' | h''
        · exact absurd h'' h'
        · exact h''
      · cases h2b : h2 b with
        | none => rfl
        | some o' => have := l2 _ _ h2b; rw [h'] at this; cases this
  · intro b o hb'
    refine hk b o (l2 _ _ hb') ?_
    rcases d b with h'' | h''
    · exact h''
    · rw [h''] at hb'; cases hb'

theorem Sat.frameRep {A B : Asn} {L L' : List Asn} {h h' : Hp} (hr : Rep A B L L') (hs : Sat h L)
    (hf : ∀ h1, A h1 → Hp.le h1 h → ∃ h1', B h1' ∧ Hp.le h1' h' ∧ (∀ b, h1' b ≠ none → h1 b ≠ none ∨ h b = none) ∧ (∀ b o, h b = some o → h1 b = none → h' b = some o)) : Sat h' L' := by
  obtain ⟨R, p1, p2⟩ := hr.perm
  exact (Sat.frame (hs.perm p1) hf).perm p2.symm
theorem Sat.memRep {A B : Asn} {L L' : List Asn} {h : Hp} (hr : Rep A B L L') (hs : Sat h L) : ∃ h1, Hp.le h1 h ∧ A h1 := by
  obtain ⟨R, p1, p2⟩ := hr.perm
  exact (hs.perm p1).head

theorem hp_setCell (w : World) (b o : Nat) (v : Value) (C : Array Value) (T : TypeId) (fz : Nat × Nat) (h : hp w b = some (.cells C T fz)) :
    hp (w.setCell ⟨b, o, none⟩ v) = Hp.upd (hp w) b (.cells (C.setIfInBounds o v) T fz) := by
  funext x
  unfold hp at h
  unfold hp World.setCell Hp.upd
  simp only [Array.getElem?_modify]
  by_cases e : b = x
  · subst e; simp [h]
  · have e' : ¬ x = b := fun h => e h.symm
    simp [e, e']

theorem run_storeCell (P : Program) (w : World) (b o : Nat) (v : Value) (C : Array Value) (T : TypeId) (h : hp w b = some (.cells C T (0, 0))) (ho : o < C.size) (h1 : v.oneCell' = true) :
    (store ⟨b, o, none⟩ v).run P w = .ok () (w.setCell ⟨b, o, none⟩ v) := by
  unfold hp at h
  have hcell : w.cell? ⟨b, o, none⟩ = some C[o] := by simp [World.cell?, h, ho]
  have hfro : w.frozen? ⟨b, o, none⟩ = false := by simp [World.frozen?, h]
  rw [run_store P w _ v _ h1, hcell]
  simp [hfro]

theorem cells_one {v : Value} (h : v.oneCell' = true) : v.cells = #[v] := by cases v <;> simp [Value.oneCell'] at h <;> rfl

section
variable {P : Program} {F : Fr} {L : List Asn} {dst : Option Tmp} {ty : TypeId} {pos : String} {aft : Array Edge} {gd : Option (Nat × Bool)}

class One (P : Program) (t : TypeId) : Prop where out : (P.info? t).map (·.size) = some 1

theorem run_storeOp {t : Nat} [h1 : One P t] {x y : Operand} {p : Addr} {v : Value} {ρ : Operand → Value} {w : World} {C : Array Value} {T : TypeId} (hρ : ∀ x u, ev F x = some u → ρ x = u)
    (hx : ev F x = some (.pointer (some p))) (hy : ev F y = some v) (hv : v.oneCell' = true) (hp : p.spot = none) (hb : KK.hp w p.block = some (.cells C T (0, 0))) (ho : p.off < C.size) :
    (execOp ρ ⟨dst, .store t x y, ty, pos, aft, gd⟩).run P w = .ok .skip (w.setCell p v) := by
  have hs : (sizeOf t).run P w = .ok 1 w := run_sizeOf_of h1.out
  have hst := run_storeCell P w p.block p.off v C T hb ho hv
  have he : p.add 0 = p := by unfold Addr.add; simp
  have he2 : (⟨p.block, p.off, none⟩ : Addr) = p := by cases p; simp at hp; subst hp; rfl
  rw [he2] at hst
  have hy' := hρ _ _ hy
  have hx' := hρ _ _ hx
  clear hy hx hρ
  simp [execOp, Instr.storeAt, Instr.sureAddr, storeVar, hx', hy', cells_one hv, hs, storeCells, he, hst]

inductive SetAt {α : Type} (v : α) : List α → Nat → List α → Prop
  | head {x : α} {l : List α} : SetAt v (x :: l) 0 (v :: l)
  | tail {x : α} {l l' : List α} {k : Nat} : SetAt v l k l' → SetAt v (x :: l) (k + 1) (x :: l')
theorem SetAt.eq {α : Type} {v : α} {l l' : List α} {k : Nat} (h : SetAt v l k l') : l' = l.set k v ∧ k < l.length := by
  induction h with
  | head => simp
  | tail _ ih => simp [ih.1, ih.2]

theorem Eff.store {t : Nat} [h1 : One P t] {x y : Operand} {p : Addr} {v : Value} {cs cs' : List Value} {T : TypeId} {k : Nat} {L' : List Asn}
    (hx : ev F x = some (.pointer (some p))) (hy : ev F y = some v) (hv : v.oneCell' = true) (hp : p.spot = none) (hk : p.off = k) (hset : SetAt v cs k cs')
    (hr : Rep (blk p.block (.cells cs.toArray T (0, 0))) (blk p.block (.cells cs'.toArray T (0, 0))) L L') :
    Eff P F L ⟨dst, .store t x y, ty, pos, aft, gd⟩ (fun u M => u = undef ∧ M = L') := Eff.of_skip fun ρ w hρ hs => by
  obtain ⟨R, p1, p2⟩ := hr.perm
  have hs1 := hs.perm p1
  have hb : KK.hp w p.block = some (.cells cs.toArray T (0, 0)) := BlkIn.head.out _ hs1
  obtain ⟨e1, e2⟩ := hset.eq
  refine ⟨_, L', run_storeOp hρ hx hy hv hp hb (by rw [hk]; simpa using e2), ⟨rfl, rfl⟩, rfl, ?_⟩
  have he : p = ⟨p.block, p.off, none⟩ := by cases p; simp at hp; subst hp; rfl
  rw [he, hp_setCell _ _ _ _ _ _ _ hb]
  refine Sat.perm p2.symm ?_
  have := hs1.upd (o' := .cells cs'.toArray T (0, 0))
  simpa [e1, hk] using this

end
end Go.KK

/- The text K7. -/
set_option linter.unusedVariables false
set_option linter.unusedSimpArgs false
namespace Go.KK

theorem hp_size (w : World) : hp w w.heap.size = none := by simp [hp]
theorem hp_push (w : World) (o : Obj) : hp { w with heap := w.heap.push o } = Hp.upd (hp w) w.heap.size o := by
  funext x
  unfold hp Hp.upd
  simp only [Array.getElem?_push]

section
variable {P : Program} {F : Fr} {L : List Asn} {dst : Option Tmp} {ty : TypeId} {pos : String} {aft : Array Edge} {gd : Option (Nat × Bool)}

theorem run_newRow (w : World) (e : TypeId) (cs : Array Value) : (newRow e cs).run P w = .ok ⟨w.heap.size, 0, none⟩ { w with heap := w.heap.push (.cells cs e) } := rfl

theorem Eff.box {t : Nat} {x : Operand} {v : Value} {cs : List Value} (hx : ev F x = some v) (hc : v.cells = cs.toArray) :
    Eff P F L ⟨dst, .box t x, ty, pos, aft, gd⟩ (fun u M => ∃ b, u = .pointer (some ⟨b, 0, none⟩) ∧ M = blk b (.cells cs.toArray t (0, 0)) :: L) := Eff.of_run fun ρ w hρ hs => by
  refine ⟨.pointer (some ⟨w.heap.size, 0, none⟩), { w with heap := w.heap.push (.cells cs.toArray t) }, _, ?_, ⟨w.heap.size, rfl, rfl⟩, rfl, ?_⟩
  · rw [← hc, ← hρ _ _ hx]; rfl
  · rw [hp_push]; exact Sat.new (hp_size w) hs

class ZeT (P : Program) (t : TypeId) (z : outParam Value) : Prop where out : (P.info? t).bind (·.zero) = some z
theorem Eff.alloc {t : Nat} {z : Value} [hz : ZeT P t z] {cs : List Value} (hc : z.cells = cs.toArray) :
    Eff P F L ⟨dst, .alloc t, ty, pos, aft, gd⟩ (fun u M => ∃ b, u = .pointer (some ⟨b, 0, none⟩) ∧ M = blk b (.cells cs.toArray t (0, 0)) :: L) := Eff.of_run fun ρ w hρ hs => by
  refine ⟨.pointer (some ⟨w.heap.size, 0, none⟩), { w with heap := w.heap.push (.cells cs.toArray t) }, _, ?_, ⟨w.heap.size, rfl, rfl⟩, rfl, ?_⟩
  · have h := hz.out
    cases hi : P.info? t with
    | none => simp [hi] at h
    | some i =>
      simp [hi] at h
      have hzv : (zeroValue t).run P w = .ok z w := by simp [zeroValue, typeInfo, hi, h, go_sem]
      have hnv : (newVar t z).run P w = .ok ⟨w.heap.size, 0, none⟩ { w with heap := w.heap.push (.cells cs.toArray t) } := by unfold newVar; rw [hc]; rfl
      simp only [execOp, Instr.alloc]
      simp [hzv, hnv]
  · rw [hp_push]; exact Sat.new (hp_size w) hs

/-! A row of cells filled. -/
def splice (cs : List Value) (off : Nat) (vs : List Value) : List Value := cs.take off ++ vs ++ cs.drop (off + vs.length)

theorem foldl_set : ∀ (l : List Value) (k off : Nat) (cs : Array Value), off + k + l.length ≤ cs.size →
    ((l.zipIdx k).foldl (fun cs (p : Value × Nat) => cs.setIfInBounds (off + p.2) p.1) cs).toList = cs.toList.take (off + k) ++ l ++ cs.toList.drop (off + k + l.length)
  | [], k, off, cs, h => by simp
  | v :: l, k, off, cs, h => by
    simp only [List.length_cons] at h
    simp only [List.zipIdx_cons, List.foldl_cons]
    rw [foldl_set l (k + 1) off _ (by simp; omega)]
    have hlt : off + k < cs.toList.length := by simp; omega
    have e1 : (cs.setIfInBounds (off + k) v).toList.take (off + (k + 1)) = cs.toList.take (off + k) ++ [v] := by
      rw [Array.toList_setIfInBounds, ← Nat.add_assoc, List.take_add_one]
      simp only [List.getElem?_set_self hlt, Option.toList_some, List.take_set]
      congr 1
      rw [List.set_eq_of_length_le (by simp; omega)]
    have e2 : (cs.setIfInBounds (off + k) v).toList.drop (off + (k + 1) + l.length) = cs.toList.drop (off + k + (v :: l).length) := by
      rw [Array.toList_setIfInBounds, List.drop_set_of_lt (by omega)]
      congr 1
      simp; omega
    rw [e1, e2]
    simp

theorem fill_cons {place : Nat → Option (Nat × Nat)} {cells : List Value} {i off size : Nat} {v : Value} {vs : List Value} {ps : List (Nat × Value)} (hp : place i = some (off, size)) (hv : v.cells = vs.toArray) (hs : vs.length = size) (hf : off + size ≤ cells.length) :
    Instr.fill place cells.toArray ((i, v) :: ps) = Instr.fill place (splice cells off vs).toArray ps := by
  simp only [Instr.fill, hp, hv]
  rw [if_neg (by simp; omega)]
  congr 1
  apply Array.ext'
  have := foldl_set vs 0 off cells.toArray (by simp; omega)
  simp only [Nat.add_zero] at this
  rw [← Array.foldl_toList]
  simpa [splice] using this

theorem fill_seq {α : Type} (E : Enc α) : ∀ (xs : List α) (vs : List Value) (k : Nat) (done rest : List Value), (vs.map (fun v => v.cells.toList) = xs.map E.enc) → done.length = k * E.m → rest.length = xs.length * E.m →
    Instr.fill (fun i => some (i * E.m, E.m)) (done ++ rest).toArray ((List.range' k vs.length).zip vs) = some (done ++ E.all xs).toArray
  | [], vs, k, done, rest, h, hd, hr => by
    have : vs = [] := by simpa using h
    subst this
    have hr' : rest = [] := by simpa using hr
    subst hr'
    simp [Instr.fill, Enc.all]
  | x :: xs, [], k, done, rest, h, hd, hr => by simp at h
  | x :: xs, v :: vs, k, done, rest, h, hd, hr => by
    simp only [List.map_cons, List.cons.injEq] at h
    obtain ⟨h1, h2⟩ := h
    have hlen : (E.enc x).length = E.m := E.len x
    have hr2 : rest.length = xs.length * E.m + E.m := by rw [hr, List.length_cons, Nat.add_mul]; omega
    simp only [List.length_cons, List.range'_succ, List.zip_cons_cons]
    rw [fill_cons (off := k * E.m) (size := E.m) (vs := E.enc x) rfl (by rw [← h1]) hlen (by simp [hd]; omega)]
    have e : splice (done ++ rest) (k * E.m) (E.enc x) = (done ++ E.enc x) ++ rest.drop E.m := by
      unfold splice
      rw [← hd, List.take_left, hlen, List.drop_append]
      simp
    rw [e, fill_seq E xs vs (k + 1) (done ++ E.enc x) (rest.drop E.m) h2 (by simp [hd, hlen, Nat.add_mul]) (by simp; omega)]
    simp [Enc.all]

theorem Eff.buildSlice {α : Type} (E : Enc α) (xs : List α) {t e m by_ n : Nat} {z : Value} [ha : SlT P t e m by_ z] {parts : List (Nat × Operand)} {vs : List Value}
    (hT : E.T = e) (hm : E.m = m) (hv : evL F (parts.map (·.2)) = some vs) (hi : parts.map (·.1) = List.range' 0 n) (hx : vs.map (fun v => v.cells.toList) = xs.map E.enc) (hn : Nat.ble (n * m) 16777216 = true) (hcap : Nat.ble n 1000000 = true) :
    Eff P F L ⟨dst, .buildSlice t n parts.toArray, ty, pos, aft, gd⟩ (fun u M => ∃ b, u = .slice (some ⟨b, 0, none⟩) n n ∧ xs.length = n ∧ M = sl E (some ⟨b, 0, none⟩) n xs :: L) := Eff.of_run fun ρ w hρ hs => by
  obtain ⟨i', hu, hi', hz', rfl, rfl, hzc⟩ := sltB_spec ha.out
  have hnm : n * i'.size ≤ 16777216 := Nat.le_of_ble_eq_true hn
  have hn' : n ≤ 1000000 := Nat.le_of_ble_eq_true hcap
  have hlv : vs.length = n := by
    have h1 := evL_ok hρ hv
    have h2 : (parts.map (·.2)).length = (parts.map (·.1)).length := by simp
    rw [hi] at h2
    rw [← h1]; simpa using h2
  have hlx : xs.length = n := by rw [← hlv]; simpa using (congrArg List.length hx).symm
  have hparts : (parts.map fun (p : Nat × Operand) => (p.1, ρ p.2)) = (List.range' 0 n).zip vs := by
    have h1 := evL_ok hρ hv
    rw [← hi, ← h1]
    have hz : ∀ ps : List (Nat × Operand), (ps.map fun (p : Nat × Operand) => (p.1, ρ p.2)) = (ps.map (·.1)).zip ((ps.map (·.2)).map ρ) := by
      intro ps
      induction ps with
      | nil => rfl
      | cons p ps ih => simpa using ih
    exact hz parts
  refine ⟨.slice (some ⟨w.heap.size, 0, none⟩) n n, { w with heap := w.heap.push (.cells (E.all xs).toArray e) }, _, ?_, ⟨w.heap.size, rfl, hlx, rfl⟩, rfl, ?_⟩
  · have h3 : (sizeOf e).run P w = .ok i'.size w := run_sizeOf_of (by simp [hi'])
    have hzv : (zeroValue e).run P w = .ok z w := by simp [zeroValue, typeInfo, hi', hz', go_sem]
    have hzero : ∀ (zs : Array Value), ∃ rest : List Value, rest.length = n * i'.size ∧ (Array.range (n * i'.size)).map (fun x => zs[x % zs.size]!) = rest.toArray := fun zs =>
      ⟨((Array.range (n * i'.size)).map (fun x => zs[x % zs.size]!)).toList, by simp, Array.toArray_toList.symm⟩
    have hfill : ∀ zs : Array Value, Instr.fill (fun i => some (i * i'.size, i'.size)) ((Array.range (n * i'.size)).map (fun x => zs[x % zs.size]!)) ((List.range' 0 n).zip vs) = some (E.all xs).toArray := fun zs => by
      obtain ⟨rest, hr1, hr2⟩ := hzero zs
      rw [hr2]
      have := fill_seq E xs vs 0 [] rest hx (by simp) (by rw [hr1, hlx, hm])
      rw [hlv, hm] at this
      simpa using this
    have hb : (Instr.buildSlice t n (parts.toArray.map fun (p : Nat × Operand) => (p.1, ρ p.2))).run P w = .ok (.slice (some ⟨w.heap.size, 0, none⟩) n n) { w with heap := w.heap.push (.cells (E.all xs).toArray e) } := by
      have hl : (parts.toArray.map fun (p : Nat × Operand) => (p.1, ρ p.2)).toList = (List.range' 0 n).zip vs := by simpa using hparts
      unfold Instr.buildSlice
      rw [hl]
      by_cases h0 : n * i'.size = 0
      · have hf := hfill #[]
        simp [hu, underlying, h3, h0, go_sem] at hf ⊢
        simp [hf, run_newRow]
      · have hf := hfill z.cells
        simp [hu, underlying, h3, h0, hzv, go_sem]
        rw [if_neg (by omega)]
        refine (congrArg (fun (r : Option (Array Value)) => Sem.run P (match r with
          | some cells => Functor.map (fun a => Value.slice (some { block := a, off := 0 }) n n) (newObj (Obj.cells cells e))
          | x => stuck "buildSlice: a part of the wrong size") w) hf).trans ?_
        rfl
    have he : execOp ρ ⟨dst, .buildSlice t n parts.toArray, ty, pos, aft, gd⟩ = (do pure (.value (← Instr.buildSlice t n (parts.toArray.map fun (p : Nat × Operand) => (p.1, ρ p.2))))) := rfl
    rw [he, Sem.run_bind, hb]
    rfl
  · rw [hp_push]
    refine Sat.mono (Hp.le_refl _) ?_
    have := Sat.new (b := w.heap.size) (o := .cells (E.all xs).toArray e) (hp_size w) hs
    refine this.cons_imp (fun h hh => ?_) (fun _ h => h)
    rw [blk_iff] at hh
    refine sl_iff.2 (.inr ⟨w.heap.size, [], rfl, by omega, by unfold maxLen; omega, by simp [hlx], ?_⟩)
    simpa [hT] using hh
end
end Go.KK

/- The text K8. -/
set_option linter.unusedVariables false
set_option linter.unusedSimpArgs false
namespace Go.KK

theorem run_mapM_loop {α β : Type} (P : Program) (w : World) (g : α → Sem β) (f : α → β) : ∀ (xs : List α) (acc : List β), (∀ x ∈ xs, (g x).run P w = .ok (f x) w) → (List.mapM.loop g xs acc).run P w = .ok (acc.reverse ++ xs.map f) w
  | [], acc, h => by simp [List.mapM.loop]
  | x :: xs, acc, h => by
    have e : List.mapM.loop g (x :: xs) acc = (do let v ← g x; List.mapM.loop g xs (v :: acc)) := rfl
    rw [e, Sem.run_bind, h x (by simp)]
    simp only [Result.andThen]
    rw [run_mapM_loop P w g f xs _ (fun y hy => h y (by simp [hy]))]
    simp
theorem run_mapM_arr {α β : Type} (P : Program) (w : World) (g : α → Sem β) (f : α → β) (xs : Array α) (h : ∀ x ∈ xs, (g x).run P w = .ok (f x) w) : (xs.mapM g).run P w = .ok (xs.map f) w := by
  have e : xs = xs.toList.toArray := Array.toArray_toList.symm
  rw [e, List.mapM_toArray]
  simp only [Functor.map, List.mapM]
  rw [Sem.run_bind', run_mapM_loop P w g f xs.toList [] (fun x hx => h x (by simpa using hx))]
  show Result.ok _ w = _
  congr 1
  simp [← List.map_toArray]

def fpl (P : Program) (f : Field) : Nat × Nat := (f.offset, ((P.info? f.type).map (·.size)).getD 0)
def plB (P : Program) (t : TypeId) : Option (List Value × List (Nat × Nat)) :=
  match P.info? t with
  | some i => match i.zero with
    | some z => match P.underlying t with
      | some (.struct fs) => if fs.all (fun f => (P.info? f.type).isSome) then some (z.cells.toList, fs.toList.map (fpl P)) else none
      | some (.array n e) => match P.info? e with
        | some j => some (z.cells.toList, (List.range n).map fun k => (k * j.size, j.size))
        | none => none
      | _ => none
    | none => none
  | none => none
class StT (P : Program) (t : TypeId) (zs : outParam (List Value)) (pl : outParam (List (Nat × Nat))) : Prop where out : plB P t = some (zs, pl)

def bld (pl : List (Nat × Nat)) : List Value → List (Nat × Value) → Option (List Value)
  | cs, [] => some cs
  | cs, (i, v) :: ps => match pl[i]? with
    | some (off, size) => bif Nat.beq v.cells.toList.length size && Nat.ble (off + size) cs.length then bld pl (splice cs off v.cells.toList) ps else none
    | none => none

theorem bld_fill {pl : List (Nat × Nat)} {place : Nat → Option (Nat × Nat)} (hp : ∀ (i : Nat) (p : Nat × Nat), pl[i]? = some p → place i = some p) : ∀ (ps : List (Nat × Value)) (cs cs' : List Value), bld pl cs ps = some cs' → Instr.fill place cs.toArray ps = some cs'.toArray
  | [], cs, cs', h => by simp [bld] at h; subst h; rfl
  | (i, v) :: ps, cs, cs', h => by
    simp only [bld] at h
    split at h
    · rename_i off size hpl
      cases hc : (Nat.beq v.cells.toList.length size && Nat.ble (off + size) cs.length) with
      | false => rw [hc] at h; simp at h
      | true =>
        rw [hc] at h
        simp only [cond_true] at h
        simp only [Bool.and_eq_true] at hc
        have h1 := Nat.eq_of_beq_eq_true hc.1
        have h2 := Nat.le_of_ble_eq_true hc.2
        rw [fill_cons (hp i _ hpl) (vs := v.cells.toList) (Array.toArray_toList.symm) h1 h2]
        exact bld_fill hp ps _ _ h
    · cases h

section
variable {P : Program} {F : Fr} {L : List Asn} {dst : Option Tmp} {ty : TypeId} {pos : String} {aft : Array Edge} {gd : Option (Nat × Bool)}

theorem parts_map {ρ : Operand → Value} (hρ : ∀ x u, ev F x = some u → ρ x = u) {parts : List (Nat × Operand)} {vs : List Value} (hv : evL F (parts.map (·.2)) = some vs) :
    (parts.toArray.map fun (p : Nat × Operand) => (p.1, ρ p.2)).toList = (parts.map (·.1)).zip vs := by
  have h1 := evL_ok hρ hv
  have hz : ∀ ps : List (Nat × Operand), (ps.map fun (p : Nat × Operand) => (p.1, ρ p.2)) = (ps.map (·.1)).zip ((ps.map (·.2)).map ρ) := by
    intro ps
    induction ps with
    | nil => rfl
    | cons p ps ih => simpa using ih
  rw [← h1]
  simpa using hz parts

theorem Pur.build {t : Nat} {zs : List Value} {pl : List (Nat × Nat)} [hs : StT P t zs pl] {parts : List (Nat × Operand)} {vs cs : List Value} (hv : evL F (parts.map (·.2)) = some vs) (hb : bld pl zs ((parts.map (·.1)).zip vs) = some cs) :
    Pur P F L ⟨dst, .build t parts.toArray, ty, pos, aft, gd⟩ (.agg cs.toArray) := fun ρ w hρ _ => by
  have hl := parts_map hρ hv
  have h := hs.out
  have he : execOp ρ ⟨dst, .build t parts.toArray, ty, pos, aft, gd⟩ = (do pure (.value (← Instr.build t (parts.toArray.map fun (p : Nat × Operand) => (p.1, ρ p.2))))) := rfl
  have hr : (Instr.build t (parts.toArray.map fun (p : Nat × Operand) => (p.1, ρ p.2))).run P w = .ok (.agg cs.toArray) w := by
    unfold plB at h
    split at h
    · rename_i i hi
      split at h
      · rename_i z hz
        have hzv : (zeroValue t).run P w = .ok z w := by simp [zeroValue, typeInfo, hi, hz, go_sem]
        unfold Instr.build
        rw [hl]
        split at h
        · rename_i fs hu
          split at h
          · rename_i hall
            simp only [Option.some.injEq, Prod.mk.injEq] at h
            obtain ⟨rfl, rfl⟩ := h
            have hm : (fs.mapM (m := Sem) fun f => do pure (f.offset, ← sizeOf f.type)).run P w = .ok (fs.map (fpl P)) w := run_mapM_arr P w _ _ fs (fun f hf => by
              have := (Array.all_eq_true_iff_forall_mem.1 hall) f hf
              cases hfi : P.info? f.type with
              | none => simp [hfi] at this
              | some j =>
                have h3 : (sizeOf f.type).run P w = .ok j.size w := run_sizeOf_of (by simp [hfi])
                simp [h3, fpl, hfi])
            have hf := bld_fill (place := fun i => (fs.map (fpl P))[i]?) (fun i p hp => by simpa using hp) _ _ _ hb
            have hund : (underlying t).run P w = .ok (.struct fs) w := run_underlying hu w
            rw [Sem.run_bind, hzv]
            simp only [Result.andThen, Sem.run_bind, hund]
            rw [hm]
            rw [Array.toArray_toList] at hf
            simp only [hf]
            rfl
          · cases h
        · rename_i n e hu
          split at h
          · rename_i j hj
            simp only [Option.some.injEq, Prod.mk.injEq] at h
            obtain ⟨rfl, rfl⟩ := h
            have h3 : (sizeOf e).run P w = .ok j.size w := run_sizeOf_of (by simp [hj])
            have hf := bld_fill (place := fun i => some (i * j.size, j.size)) (fun i p hp => by
              simp only [List.getElem?_map, List.getElem?_range, Option.map_eq_some_iff] at hp
              obtain ⟨k, hk, rfl⟩ := hp
              have := List.getElem?_eq_some_iff.1 hk
              obtain ⟨h1, h2⟩ := this
              simp at h2
              simp [h2]) _ _ _ hb
            have hund : (underlying t).run P w = .ok (.array n e) w := run_underlying hu w
            rw [Sem.run_bind, hzv]
            simp only [Result.andThen, Sem.run_bind, hund, h3]
            rw [Array.toArray_toList] at hf
            simp only [hf]
            rfl
          · cases h
        · cases h
      · cases h
    · cases h
  rw [he, Sem.run_bind, hr]
  rfl
end
end Go.KK

/- The text K9. -/
set_option linter.unusedVariables false
set_option linter.unusedSimpArgs false
namespace Go.KK

/-- Where a block, a slice stands in a list of assertions, and the list with another one there. -/
class BlkH (L : List Asn) (b : Nat) (o : outParam Obj) (f : outParam (Obj → List Asn)) : Prop where
  out : ∀ o', Rep (blk b o) (blk b o') L (f o')
instance BlkH.head {L : List Asn} {b : Nat} {o : Obj} : BlkH (blk b o :: L) b o (fun o' => blk b o' :: L) := ⟨fun _ => .head⟩
instance (priority := 900) BlkH.tail {A : Asn} {L : List Asn} {b : Nat} {o : Obj} {f : Obj → List Asn} [h : BlkH L b o f] : BlkH (A :: L) b o (fun o' => A :: f o') := ⟨fun o' => .tail (h.out o')⟩
class SlH {α : outParam Type} (E : outParam (Enc α)) (L : List Asn) (a : Option Addr) (cap : outParam Nat) (xs : outParam (List α)) (f : outParam (Asn → List Asn)) : Prop where
  out : ∀ B, Rep (sl E a cap xs) B L (f B)
instance SlH.head {α : Type} {E : Enc α} {L : List Asn} {a : Option Addr} {cap : Nat} {xs : List α} : SlH E (sl E a cap xs :: L) a cap xs (fun B => B :: L) := ⟨fun _ => .head⟩
instance (priority := 900) SlH.tail {α : Type} {E : Enc α} {A : Asn} {L : List Asn} {a : Option Addr} {cap : Nat} {xs : List α} {f : Asn → List Asn} [h : SlH E L a cap xs f] : SlH E (A :: L) a cap xs (fun B => A :: f B) := ⟨fun B => .tail (h.out B)⟩

theorem SlH.slIn {α : Type} {E : Enc α} {L : List Asn} {a : Option Addr} {cap : Nat} {xs : List α} {f : Asn → List Asn} (h : SlH E L a cap xs f) : SlIn E L a xs := ⟨fun hh hs => by
  obtain ⟨h1, l, s⟩ := Sat.memRep (h.out (sl E a cap xs)) hs
  exact (sl.slR s).mono l⟩

section
variable {P : Program} {F : Fr} {L : List Asn} {dst : Option Tmp} {ty : TypeId} {pos : String} {aft : Array Edge} {gd : Option (Nat × Bool)}

theorem Eff.storeB {t : Nat} [h1 : One P t] {x y : Operand} {b k : Nat} {v : Value} {cs cs' : List Value} {T : TypeId} {f : Obj → List Asn}
    (hx : ev F x = some (.pointer (some ⟨b, k, none⟩))) (hy : ev F y = some v) (hv : v.oneCell' = true) [hb : BlkH L b (.cells cs.toArray T (0, 0)) f] (hset : SetAt v cs k cs') :
    Eff P F L ⟨dst, .store t x y, ty, pos, aft, gd⟩ (fun u M => u = undef ∧ M = f (.cells cs'.toArray T (0, 0))) :=
  Eff.store (p := ⟨b, k, none⟩) hx hy hv rfl rfl hset (hb.out _)

theorem sl_owns {α : Type} {E : Enc α} {a : Option Addr} {cap : Nat} {xs : List α} {h1 : Hp} {w : World} (hs : sl E a cap xs h1) (hl : Hp.le h1 (hp w)) : w.ownsRow 0 E.T E.m (.slice a xs.length cap) xs.length (E.all xs) := by
  refine ⟨E.all_len xs, ?_⟩
  rcases sl_iff.1 hs with ⟨rfl, rfl, rfl⟩ | ⟨b, spare, rfl, q1, q2, q3, hb⟩
  · exact .inl ⟨rfl, rfl⟩
  · refine .inr ⟨b, cap, _, rfl, Nat.zero_le _, hl _ _ hb, q1, q2, ?_, ?_⟩
    · simp [E.all_len, q3]; rw [← Nat.add_mul]; congr 1; omega
    · simp only []
      rw [← E.all_len xs]; exact List.take_left

theorem owns_sl {α : Type} {E : Enc α} {v : Value} {xs : List α} {w : World} {n : Nat} (hn : n = xs.length) (ho : w.ownsRow 0 E.T E.m v n (E.all xs)) :
    ∃ a cap, v = .slice a xs.length cap ∧ ∃ h1, sl E a cap xs h1 ∧ Hp.le h1 (hp w) ∧ (∀ b, h1 b ≠ none → a = some ⟨b, 0, none⟩) := by
  subst hn
  rcases ho.2 with ⟨rfl, h0⟩ | ⟨g, cap, cur, rfl, _, hg, hnc, hcm, hsz, htk⟩
  · have : xs = [] := List.eq_nil_of_length_eq_zero h0
    subst this
    exact ⟨none, 0, rfl, fun _ => none, sl_iff.2 (.inl ⟨rfl, rfl, rfl⟩), (fun _ _ h => (by cases h)), fun _ h => absurd rfl h⟩
  · refine ⟨some ⟨g, 0, none⟩, cap, rfl, fun b => if b = g then some (.cells cur E.T (0, 0)) else none, sl_iff.2 (.inr ⟨g, cur.toList.drop (xs.length * E.m), rfl, hnc, hcm, ?_, ?_⟩), ?_, ?_⟩
    · simp [hsz, Nat.sub_mul]
    · simp only [if_true, Option.some.injEq]
      rw [← htk, List.take_append_drop]
    · intro b o hb
      by_cases e : b = g
      · subst e; simp at hb; subst hb; exact hg
      · simp [e] at hb
    · intro b hb
      by_cases e : b = g
      · rw [e]
      · simp [e] at hb

theorem Eff.append {α : Type} {E : Enc α} {t e m by_ : Nat} {z : Value} [ha : SlT P t e m by_ z] {s x : Operand} {a a2 : Option Addr} {n cap n2 cap2 : Nat} {xs ys : List α} {f : Asn → List Asn}
    (hs : ev F s = some (.slice a n cap)) (hx : ev F x = some (.slice a2 n2 cap2)) [hh : SlH E L a cap xs f] [hi : SlIn E L a2 ys] (hT : E.T = e) (hm : E.m = m) (hn : n = xs.length) (hn2 : n2 = ys.length)
    (hpos : 0 < m) (hsmall : (xs.length + ys.length) * by_ ≤ 140737488355328) (hmax : xs.length + ys.length ≤ 140737488355328) (hnil : a2 = none → n2 = 0 ∧ cap2 = 0) :
    Eff P F L ⟨dst, .call ⟨.builtin .append, #[s, x], #[t, t]⟩, ty, pos, aft, gd⟩ (fun u M => ∃ a' cap', u = .slice a' (xs.length + ys.length) cap' ∧ M = f (sl E a' cap' (xs ++ ys))) := Eff.of_run fun ρ w hρ hw => by
  obtain ⟨i', hu, hi', hz', rfl, rfl, hzc⟩ := sltB_spec ha.out
  subst hT; subst hn; subst hn2
  obtain ⟨h0, l0, s0⟩ := Sat.memRep (hh.out (sl E a cap xs)) hw
  have hown := sl_owns s0 l0
  have hcall : ∀ v w', (Builtin.append_ #[t, t] ty #[.slice a xs.length cap, .slice a2 ys.length cap2]).run P w = .ok v w' → (execOp ρ ⟨dst, .call ⟨.builtin .append, #[s, x], #[t, t]⟩, ty, pos, aft, gd⟩).run P w = .ok (.value v) w' := by
    intro v w' h
    unfold execOp
    simp only [resolve, invoke, builtin, Sem.run_bind, Sem.run_pure, Result.andThen_ok, List.map_toArray, List.map_cons, List.map_nil, hρ _ _ hs, hρ _ _ hx, h]
  have main : ∃ v' w', (Builtin.append_ #[t, t] ty #[.slice a xs.length cap, .slice a2 ys.length cap2]).run P w = .ok v' w' ∧ w'.ownsRow 0 E.T E.m v' (xs.length + ys.length) (E.all xs ++ E.all ys) ∧ w.grownBy w' (Value.slice a xs.length cap).ownBlock ∧ (∀ k, v'.ownBlock = some k → a = some ⟨k, 0, none⟩ ∨ w.heap.size ≤ k) := by
    cases a2 with
    | none =>
      obtain ⟨h1, h2⟩ := hnil rfl
      have : ys = [] := List.eq_nil_of_length_eq_zero h1
      subst this
      subst h2
      refine ⟨_, w, run_append_owned_none (P := P) w 0 t ty E.T i' E.m hu hi' _ xs.length (E.all xs) hown, by simpa [Enc.all] using hown, ⟨rfl, rfl, rfl, Nat.le_refl _, fun _ _ _ => rfl⟩, ?_⟩
      intro k hk
      rcases hown.2 with ⟨h1, h0⟩ | ⟨g, cap', cur, h1, _, hg, _⟩
      · rw [h1] at hk; simp [Value.ownBlock] at hk
      · simp only [Value.slice.injEq] at h1
        obtain ⟨rfl, _, _⟩ := h1
        simp [Value.ownBlock] at hk
        left; rw [hk]
    | some p =>
      have hnews : ∀ j u, (E.all ys)[j]? = some u → w.cell? (p.add j) = some u := by
        intro j u hj
        rcases hi.out _ hw with h0 | ⟨b, off, C, T, fz, hp, hb, hc⟩
        · subst h0; simp [Enc.all] at hj
        · cases hp
          have := hc j u hj
          rw [cell?_eq]
          have e : (⟨b, off, none⟩ : Addr).add j = ⟨b, off + j, none⟩ := by unfold Addr.add; split <;> simp_all
          rw [e]
          simp [cellH, hb, this]
      obtain ⟨v', w', hr, ho, hg, _⟩ := run_append_own (P := P) w 0 t ty E.T i' z E.m i'.bytes hu hi' hz' hm.symm rfl (by rw [hzc, hm]) (by rw [hm]; exact hpos) _ xs.length (E.all xs) hown p ys.length cap2 (E.all ys) (E.all_len ys) hnews (E.all_one ys) (by unfold maxLen; omega) hsmall (Nat.zero_le _)
      refine ⟨v', w', hr, ho, hg, ?_⟩
      intro k hk
      by_cases hkn : w.heap.size ≤ k
      · exact .inr hkn
      · left
        rcases hown.2 with ⟨h1, h0⟩ | ⟨g, cap', cur, h1, _, hg', hnc, hcm, hcs, htk⟩
        · simp only [Value.slice.injEq] at h1
          obtain ⟨rfl, h00, rfl⟩ := h1
          by_cases hm0 : ys.length = 0
          · have hy0 : ys = [] := List.eq_nil_of_length_eq_zero hm0
            subst hy0
            rw [h00] at hr
            have hr2 : (Builtin.append_ #[t, t] ty #[.slice none 0 0, .slice (some p) 0 cap2]).run P w = .ok (.slice none 0 0) w := by
              simp [Builtin.append_, run_underlying hu, sizeOf, typeInfo, hi', Builtin.lenOf, Builtin.firstCells, loadCells, loadCellsFrom]
            simp only [List.length_nil] at hr
            rw [hr2] at hr
            cases hr
            simp [Value.ownBlock] at hk
          · have hr2 := run_append_nil (P := P) w t ty E.T i' z hu hi' hz' p ys.length cap2 (E.all ys) (by rw [E.all_len, hm]) hnews (by omega) (by omega) (by rw [h00] at hsmall; simp at hsmall; omega)
            rw [h00] at hr
            rw [hr2] at hr
            cases hr
            simp [Value.ownBlock] at hk
            omega
        · simp only [Value.slice.injEq] at h1
          obtain ⟨rfl, _, rfl⟩ := h1
          by_cases hroom : xs.length + ys.length ≤ cap
          · have hfit : xs.length * i'.size + (E.all ys).length ≤ cur.size := by
              rw [E.all_len, hcs, hm, ← Nat.add_mul]; exact Nat.mul_le_mul_right _ hroom
            have hr2 := run_append_room (P := P) w t ty E.T i' hu hi' g xs.length cap cur hg' p ys.length cap2 (E.all ys) (by rw [E.all_len, hm]) hnews (E.all_one ys) hroom hfit
            rw [hr2] at hr
            cases hr
            simp [Value.ownBlock] at hk
            rw [hk]
          · have holds : ∀ j u, (E.all xs)[j]? = some u → w.cell? ((⟨g, 0, none⟩ : Addr).add j) = some u := hown.cells (g := g) rfl
            have hr2 := run_append_grow (P := P) w t ty E.T i' z hu hi' hz' ⟨g, 0, none⟩ xs.length cap (E.all xs) (by rw [E.all_len, hm]) holds p ys.length cap2 (E.all ys) (by rw [E.all_len, hm]) hnews (by omega) (by omega) (growslice_fits (by omega) hsmall)
            rw [hr2] at hr
            cases hr
            simp [Value.ownBlock] at hk
            omega
  obtain ⟨v', w', hr, ho, hg, hblk⟩ := main
  rw [← E.all_append] at ho
  obtain ⟨a', cap', rfl, h1, s1, l1, d1⟩ := owns_sl (by simp) ho
  refine ⟨_, w', _, hcall _ _ hr, ⟨a', cap', by simp, rfl⟩, by unfold env; rw [hg.os, hg.tape, hg.output], ?_⟩
  refine Sat.frameRep (hh.out _) hw fun k1 hA hl1 => ⟨h1, s1, l1, ?_, ?_⟩
  · intro b hb
    have := d1 b hb
    subst this
    rcases hblk b rfl with h | h
    · left
      rcases sl_iff.1 hA with ⟨h', _, _⟩ | ⟨b', spare, h', _, _, _, hb'⟩
      · rw [h'] at h; cases h
      · rw [h'] at h; simp at h; subst h; rw [hb']; simp
    · right; unfold hp; simp; omega
  · intro b o hb hno
    have hlt : b < w.heap.size := (Array.getElem?_eq_some_iff.1 hb).1
    have := hg.block b hlt (by
      intro h
      rcases sl_iff.1 hA with ⟨h', _, _⟩ | ⟨b', spare, h', _, _, _, hb'⟩
      · rw [h'] at h; simp [Value.ownBlock] at h
      · rw [h'] at h; simp [Value.ownBlock] at h; subst h; rw [hb'] at hno; cases hno)
    unfold hp at *
    rw [this]; exact hb

end
end Go.KK

/- The text K10. -/
set_option linter.unusedVariables false
set_option linter.unusedSimpArgs false
namespace Go.KK

theorem get_split {F : Fr} {t : Nat} {b : Bool} (ht : get F t = some (.bool b)) {n : Nat} {a : Act} (hF : OkF n F a) : OkF n ((t, .bool b) :: F) a :=
  ⟨hF.size, hF.nodef, fun s v hv => by
    simp only [get] at hv
    cases hb : Nat.beq t s with
    | true => rw [hb] at hv; simp at hv; subst hv; have := Nat.eq_of_beq_eq_true hb; subst this; exact hF.val _ _ ht
    | false => rw [hb] at hv; exact hF.val _ _ hv⟩

theorem get_set {F : Fr} {t : Nat} {u : Value} (ht : get F t = some u) {n : Nat} {a : Act} (hF : OkF n F a) : OkF n ((t, u) :: F) a :=
  ⟨hF.size, hF.nodef, fun s v hv => by
    simp only [get] at hv
    cases hb : Nat.beq t s with
    | true => rw [hb] at hv; simp at hv; subst hv; have := Nat.eq_of_beq_eq_true hb; subst this; exact hF.val _ _ ht
    | false => rw [hb] at hv; exact hF.val _ _ hv⟩

section rules
variable {c : Cx} {F : Fr} {L Lk : List Asn} {k : List Item} {ops rest : List Oper} {fuel : Nat} {is : List Nat}

theorem J.splitB {b : Bool} (t : Nat) (ht : get F t = some (.bool b)) (h1 : b = true → J c ((t, .bool true) :: F) L k) (h2 : b = false → J c ((t, .bool false) :: F) L k) : J c F L k := fun a w hF hs => by
  cases b
  · exact h2 rfl a w (get_split ht hF) hs
  · exact h1 rfl a w (get_split ht hF) hs
theorem JO.splitB {b : Bool} (t : Nat) (ht : get F t = some (.bool b)) (h1 : b = true → JO c ops ((t, .bool true) :: F) L rest k) (h2 : b = false → JO c ops ((t, .bool false) :: F) L rest k) : JO c ops F L rest k := fun a w hF hs => by
  cases b
  · exact h2 rfl a w (get_split ht hF) hs
  · exact h1 rfl a w (get_split ht hF) hs
theorem JQ.splitB {b : Bool} (t : Nat) (ht : get F t = some (.bool b)) (h1 : b = true → JQ c ops ((t, .bool true) :: F) L rest k) (h2 : b = false → JQ c ops ((t, .bool false) :: F) L rest k) : JQ c ops F L rest k := fun a w hF => by
  cases b
  · exact h2 rfl a w (get_split ht hF)
  · exact h1 rfl a w (get_split ht hF)

/-- A slot's value, spelled otherwise. -/
theorem J.setv {u u' : Value} (t : Nat) (ht : get F t = some u) (e : u = u') (h : J c ((t, u') :: F) L k) : J c F L k := fun a w hF hs => h a w (get_set (e ▸ ht) hF) hs
theorem JO.setv {u u' : Value} (t : Nat) (ht : get F t = some u) (e : u = u') (h : JO c ops ((t, u') :: F) L rest k) : JO c ops F L rest k := fun a w hF hs => h a w (get_set (e ▸ ht) hF) hs
theorem JQ.setv {u u' : Value} (t : Nat) (ht : get F t = some u) (e : u = u') (h : JQ c ops ((t, u') :: F) L rest k) : JQ c ops F L rest k := fun a w hF => h a w (get_set (e ▸ ht) hF)

theorem Picks.append {G H : Fr} (h1 : Picks F G) (h2 : Picks F H) : Picks F (G ++ H) := by
  induction h1 with
  | nil => exact h2
  | cons a b _ ih => exact .cons a b ih

/-- A loop: 'I i' is what its round turns, 'F0' what it leaves. -/
theorem J.loopF {x : Code} {ι : Type} (good : ι → Prop) (I : ι → Fr) (F0 : Fr) (H : ι → List Asn) (μ : ι → Nat) (i0 : ι) (hk : kind x = 6)
    (hF0 : Picks F F0) (hI : Picks F (I i0)) (hL : ∀ h, Sat h L → Sat h (H i0)) (hg : good i0)
    (body : ∀ i, good i → (∀ j, good j → μ j < μ i → J c (I j ++ F0) (H j) (.inLoop (cL x) :: k)) → J c (I i ++ F0) (H i) (.code (cL x) :: .inLoop (cL x) :: k)) :
    J c F L (.code x :: k) :=
  J.loop good (fun i => I i ++ F0) H μ i0 hk (hI.append hF0) hL hg body

/-- One piece of the list ahead. -/
inductive Pull (A : Asn) : List Asn → List Asn → Prop
  | head {L : List Asn} : Pull A (A :: L) L
  | tail {B : Asn} {L R : List Asn} : Pull A L R → Pull A (B :: L) (B :: R)
theorem Pull.perm {A : Asn} {L R : List Asn} (h : Pull A L R) : L.Perm (A :: R) := by
  induction h with
  | head => exact .refl _
  | @tail B L R _ ih => exact (ih.cons B).trans (.swap _ _ _)
/-- A callee's law on one assertion ahead, anywhere. -/
theorem CallS.at {P : Program} {fn : FuncId} {args : Array Value} {A : Asn} {Q : Value → Asn → Prop} {f : Asn → List Asn} (h : ∀ R, CallS P fn args (A :: R) (fun v M => ∃ B, Q v B ∧ M = B :: R)) (hr : ∀ B, Rep A B L (f B)) :
    CallS P fn args L (fun v M => ∃ B, Q v B ∧ M = f B) := fun w hs => by
  obtain ⟨R, p1, p2⟩ := (hr A).perm
  have hrep : ∀ B, ∃ R', L.Perm (A :: R') ∧ (f B).Perm (B :: R') := fun B => (hr B).perm
  refine (h R w (hs.perm p1)).mono fun e w' ⟨v, M, ⟨B, q, hm⟩, he, hs', hv⟩ => ⟨v, f B, ⟨B, q, rfl⟩, he, ?_, hv⟩
  subst hm
  obtain ⟨R', q1, q2⟩ := hrep B
  have : (A :: R).Perm (A :: R') := p1.symm.trans q1
  have h2 : R.Perm R' := (List.perm_cons A).1 this
  exact (hs'.perm (h2.cons B)).perm q2.symm

theorem wr64 {n : Int} (h : -9223372036854775808 ≤ n ∧ n ≤ 9223372036854775807) : IntKind.wrap .i64 n = n := IntWalk.i64_in n h
end rules
end Go.KK
namespace Go.KK
section
variable {c : Cx} {F : Fr} {L Lk : List Asn} {k : List Item}
end
end Go.KK

/- The text K11. -/
set_option linter.unusedVariables false
set_option linter.unusedSimpArgs false
namespace Go.KK
section
variable {P : Program} {F : Fr} {L : List Asn} {dst : Option Tmp} {ty : TypeId} {pos : String} {aft : Array Edge} {gd : Option (Nat × Bool)}

theorem Eff.storeBA {t n : Nat} [h1 : Agg P t n] {x y : Operand} {b : Nat} {cs cs' : List Value} {T : TypeId} {f : Obj → List Asn}
    (hx : ev F x = some (.pointer (some ⟨b, 0, none⟩))) (hy : ev F y = some (.agg cs'.toArray)) [hb : BlkH L b (.cells cs.toArray T (0, 0)) f] (hl : cs.length = n) (hl' : cs'.length = n) (hv : cs'.all (·.oneCell') = true) :
    Eff P F L ⟨dst, .store t x y, ty, pos, aft, gd⟩ (fun u M => u = undef ∧ M = f (.cells cs'.toArray T (0, 0))) := Eff.of_skip fun ρ w hρ hs => by
  have hr := hb.out (.cells cs'.toArray T (0, 0))
  obtain ⟨R, p1, p2⟩ := hr.perm
  have hs1 := hs.perm p1
  have hbw : hp w b = some (.cells cs.toArray T (0, 0)) := BlkIn.head.out _ hs1
  have hst := run_storeVar_row (P := P) w b T t cs.toArray cs'.toArray hbw (by rw [h1.size]; simp [hl']) (by simp [hl, hl']) (by simpa using hv)
  refine ⟨w.setRow b cs'.toArray, f (.cells cs'.toArray T (0, 0)), ?_, ⟨rfl, rfl⟩, rfl, ?_⟩
  · have he : execOp ρ ⟨dst, .store t x y, ty, pos, aft, gd⟩ = (do Instr.storeAt t (ρ x) (ρ y); pure .skip) := rfl
    rw [he, Sem.run_bind, hρ _ _ hx, hρ _ _ hy]
    have : (Instr.storeAt t (.pointer (some ⟨b, 0, none⟩)) (.agg cs'.toArray)).run P w = .ok () (w.setRow b cs'.toArray) := by
      simp only [Instr.storeAt, Instr.sureAddr, Sem.run_bind, Sem.run_pure, Result.andThen_ok]
      exact hst
    rw [this]; rfl
  · have e : hp (w.setRow b cs'.toArray) = Hp.upd (hp w) b (.cells cs'.toArray T (0, 0)) := by
      funext z
      unfold Hp.upd
      by_cases h : z = b
      · subst h; simp only [if_true]; exact setRow_heap w z cs.toArray _ T _ hbw
      · simp only [h, if_false]; exact setRow_other w b z _ h
    rw [e]
    exact Sat.perm p2.symm hs1.upd
end
end Go.KK

/- The text K12. -/
set_option linter.unusedVariables false
set_option linter.unusedSimpArgs false
namespace Go.KK

theorem Rep.same {A : Asn} {L M : List Asn} (h : Rep A A L M) : L = M := by
  induction h with
  | head => rfl
  | tail _ ih => exact congrArg _ ih

theorem SlH.own {α : Type} {E : Enc α} {L : List Asn} {a : Option Addr} {cap : Nat} {xs : List α} {f : Asn → List Asn} (hh : SlH E L a cap xs f) {h : Hp} (hs : Sat h L) :
    (a = none ∧ cap = 0 ∧ xs = []) ∨ ∃ b sp, a = some ⟨b, 0, none⟩ ∧ xs.length ≤ cap ∧ cap ≤ maxLen ∧ sp.length = (cap - xs.length) * E.m ∧ h b = some (.cells (E.all xs ++ sp).toArray E.T (0, 0)) := by
  obtain ⟨h1, l, s⟩ := Sat.memRep (hh.out (sl E a cap xs)) hs
  rcases sl_iff.1 s with h0 | ⟨b, sp, e1, e2, e3, e4, e5⟩
  · exact .inl h0
  · exact .inr ⟨b, sp, e1, e2, e3, e4, l _ _ e5⟩

section
variable {P : Program} {F : Fr} {L : List Asn} {dst : Option Tmp} {ty : TypeId} {pos : String} {aft : Array Edge} {gd : Option (Nat × Bool)}

def tailA (a : Option Addr) (cap j m : Nat) : Option Addr := if cap = j then a else a.map (·.add (j * m))

end
end Go.KK
