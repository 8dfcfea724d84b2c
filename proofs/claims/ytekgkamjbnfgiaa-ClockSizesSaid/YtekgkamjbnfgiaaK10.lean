/-
  A part of the proof of the claim that this folder bears.
  This text: K10.
-/
import Derived.Test.YtekgkamjbnfgiaaK9
import Derived.IntWalk
set_option linter.unusedVariables false
set_option linter.unusedSimpArgs false
namespace Go.KK

theorem get_split {F : Fr} {t : Nat} {b : Bool} (ht : get F t = some (.bool b)) {n : Nat} {a : Act} (hF : OkF n F a) : OkF n ((t, .bool b) :: F) a :=
  ⟨hF.size, hF.nodef, fun s v hv => by
    simp only [get] at hv
    cases hb : Nat.beq t s with
    | true => rw [hb] at hv; simp at hv; subst hv; have := Nat.eq_of_beq_eq_true hb; subst this; exact hF.val _ _ ht
    | false => rw [hb] at hv; exact hF.val _ _ hv⟩

theorem get_set {F : Fr} {t : Nat} {u : Value} (ht : get F t = some u) {n : Nat} {a : Act} (hF : OkF n F a) : OkF n ((t, u) :: F) a :=
  ⟨hF.size, hF.nodef, fun s v hv => by
    simp only [get] at hv
    cases hb : Nat.beq t s with
    | true => rw [hb] at hv; simp at hv; subst hv; have := Nat.eq_of_beq_eq_true hb; subst this; exact hF.val _ _ ht
    | false => rw [hb] at hv; exact hF.val _ _ hv⟩

section rules
variable {c : Cx} {F : Fr} {L Lk : List Asn} {k : List Item} {ops rest : List Oper} {fuel : Nat} {is : List Nat}

theorem J.splitB {b : Bool} (t : Nat) (ht : get F t = some (.bool b)) (h1 : b = true → J c ((t, .bool true) :: F) L k) (h2 : b = false → J c ((t, .bool false) :: F) L k) : J c F L k := fun a w hF hs => by
  cases b
  · exact h2 rfl a w (get_split ht hF) hs
  · exact h1 rfl a w (get_split ht hF) hs
theorem JO.splitB {b : Bool} (t : Nat) (ht : get F t = some (.bool b)) (h1 : b = true → JO c ops ((t, .bool true) :: F) L rest k) (h2 : b = false → JO c ops ((t, .bool false) :: F) L rest k) : JO c ops F L rest k := fun a w hF hs => by
  cases b
  · exact h2 rfl a w (get_split ht hF) hs
  · exact h1 rfl a w (get_split ht hF) hs
theorem JQ.splitB {b : Bool} (t : Nat) (ht : get F t = some (.bool b)) (h1 : b = true → JQ c ops ((t, .bool true) :: F) L rest k) (h2 : b = false → JQ c ops ((t, .bool false) :: F) L rest k) : JQ c ops F L rest k := fun a w hF => by
  cases b
  · exact h2 rfl a w (get_split ht hF)
  · exact h1 rfl a w (get_split ht hF)

/-- A slot's value, spelled otherwise. -/
theorem J.setv {u u' : Value} (t : Nat) (ht : get F t = some u) (e : u = u') (h : J c ((t, u') :: F) L k) : J c F L k := fun a w hF hs => h a w (get_set (e ▸ ht) hF) hs
theorem JO.setv {u u' : Value} (t : Nat) (ht : get F t = some u) (e : u = u') (h : JO c ops ((t, u') :: F) L rest k) : JO c ops F L rest k := fun a w hF hs => h a w (get_set (e ▸ ht) hF) hs
theorem JQ.setv {u u' : Value} (t : Nat) (ht : get F t = some u) (e : u = u') (h : JQ c ops ((t, u') :: F) L rest k) : JQ c ops F L rest k := fun a w hF => h a w (get_set (e ▸ ht) hF)

theorem Picks.append {G H : Fr} (h1 : Picks F G) (h2 : Picks F H) : Picks F (G ++ H) := by
  induction h1 with
  | nil => exact h2
  | cons a b _ ih => exact .cons a b ih

/-- A loop: 'I i' is what its round turns, 'F0' what it leaves. -/
theorem J.loopF {x : Code} {ι : Type} (good : ι → Prop) (I : ι → Fr) (F0 : Fr) (H : ι → List Asn) (μ : ι → Nat) (i0 : ι) (hk : kind x = 6)
    (hF0 : Picks F F0) (hI : Picks F (I i0)) (hL : ∀ h, Sat h L → Sat h (H i0)) (hg : good i0)
    (body : ∀ i, good i → (∀ j, good j → μ j < μ i → J c (I j ++ F0) (H j) (.inLoop (cL x) :: k)) → J c (I i ++ F0) (H i) (.code (cL x) :: .inLoop (cL x) :: k)) :
    J c F L (.code x :: k) :=
  J.loop good (fun i => I i ++ F0) H μ i0 hk (hI.append hF0) hL hg body

/-- One piece of the list ahead. -/
inductive Pull (A : Asn) : List Asn → List Asn → Prop
  | head {L : List Asn} : Pull A (A :: L) L
  | tail {B : Asn} {L R : List Asn} : Pull A L R → Pull A (B :: L) (B :: R)
theorem Pull.perm {A : Asn} {L R : List Asn} (h : Pull A L R) : L.Perm (A :: R) := by
  induction h with
  | head => exact .refl _
  | @tail B L R _ ih => exact (ih.cons B).trans (.swap _ _ _)
theorem J.pull {A : Asn} {R : List Asn} (hp : Pull A L R) (h : J c F (A :: R) k) : J c F L k := J.perm hp.perm h
theorem JO.pull {A : Asn} {R : List Asn} (hp : Pull A L R) (h : JO c ops F (A :: R) rest k) : JO c ops F L rest k := JO.perm hp.perm h

/-- A callee's law on one assertion ahead, anywhere. -/
theorem CallS.at {P : Program} {fn : FuncId} {args : Array Value} {A : Asn} {Q : Value → Asn → Prop} {f : Asn → List Asn} (h : ∀ R, CallS P fn args (A :: R) (fun v M => ∃ B, Q v B ∧ M = B :: R)) (hr : ∀ B, Rep A B L (f B)) :
    CallS P fn args L (fun v M => ∃ B, Q v B ∧ M = f B) := fun w hs => by
  obtain ⟨R, p1, p2⟩ := (hr A).perm
  have hrep : ∀ B, ∃ R', L.Perm (A :: R') ∧ (f B).Perm (B :: R') := fun B => (hr B).perm
  refine (h R w (hs.perm p1)).mono fun e w' ⟨v, M, ⟨B, q, hm⟩, he, hs', hv⟩ => ⟨v, f B, ⟨B, q, rfl⟩, he, ?_, hv⟩
  subst hm
  obtain ⟨R', q1, q2⟩ := hrep B
  have : (A :: R).Perm (A :: R') := p1.symm.trans q1
  have h2 : R.Perm R' := (List.perm_cons A).1 this
  exact (hs'.perm (h2.cons B)).perm q2.symm

theorem wr64 {n : Int} (h : -9223372036854775808 ≤ n ∧ n ≤ 9223372036854775807) : IntKind.wrap .i64 n = n := IntWalk.i64_in n h
end rules
end Go.KK
namespace Go.KK
section
variable {c : Cx} {F : Fr} {L Lk : List Asn} {k : List Item}
end
end Go.KK
