/-
  A part of the proof of the claim that this folder bears.
-/
import Derived.Test.YtbmepcipnnlcnaaDoorKB
/- The text K44. -/
set_option linter.unusedVariables false
/-! Slices that are cut in front of what their row still has; orders of a drawn region that meet. -/
namespace Go.KK
@[irreducible] def slQ {α : Type} (E : Enc α) (a : Option Addr) (cap : Nat) (xs : List α) : Asn := fun h =>
  sl E a cap xs h ∨ (a ≠ none ∧ cap = xs.length ∧ ∃ z : Nat × List α, sl E a z.1 (xs ++ z.2) h)
section
variable {α : Type} {E : Enc α} {a : Option Addr} {cap : Nat} {xs : List α} {L : List Asn}
theorem slQ_cases {h : Hp} (hs : Sat h (slQ E a cap xs :: L)) : Sat h (sl E a cap xs :: L) ∨ (a ≠ none ∧ cap = xs.length ∧ ∃ c zs, Sat h (sl E a c (xs ++ zs) :: L)) := by
  obtain ⟨h1, h2, hd, l1, l2, hA, hL⟩ := hs
  unfold slQ at hA
  rcases hA with hA | ⟨g1, g2, z, hA⟩
  · exact .inl ⟨h1, h2, hd, l1, l2, hA, hL⟩
  · exact .inr ⟨g1, g2, z.1, z.2, h1, h2, hd, l1, l2, hA, hL⟩
theorem SlIn.pre {L M : List Asn} (h : SlIn E M a xs) (hs : ∀ h, Sat h L → Sat h M) : SlIn E L a xs := ⟨fun hh s => h.out hh (hs hh s)⟩
theorem SlIn.left {zs : List α} (h : SlIn E L a (xs ++ zs)) : SlIn E L a xs := by
  have h1 := h.takeN xs.length
  rwa [List.take_left] at h1
instance (priority := 1100) SlIn.slQ : SlIn E (slQ E a cap xs :: L) a xs := ⟨fun hh s => by
  rcases slQ_cases s with g | ⟨_, _, c, zs, g⟩
  · exact (inferInstance : SlIn E (sl E a cap xs :: L) a xs).out hh g
  · exact (SlIn.left (inferInstance : SlIn E (sl E a c (xs ++ zs) :: L) a (xs ++ zs))).out hh g⟩
end
section
variable {P : Program} {F : Fr} {L : List Asn} {o : Oper}
theorem Eff.mono {Q Q' : Value → List Asn → Prop} (h : Eff P F L o Q) (hq : ∀ v M, Q v M → ∃ M', Q' v M' ∧ ∀ h, Sat h M → Sat h M') : Eff P F L o Q' := fun act w ht hρ hs next Qx hn =>
  h act w ht hρ hs next Qx fun v w' L' a b c => let ⟨M', d, e⟩ := hq v L' a; hn v w' M' d (e _ b) c
theorem Eff.pre {M : List Asn} {Q : Value → List Asn → Prop} (hs : ∀ h, Sat h L → Sat h M) (h : Eff P F M o Q) : Eff P F L o Q := fun act w ht hρ s => h act w ht hρ (hs _ s)
end
section
variable {P : Program} {F : Fr} {L : List Asn} {dst : Option Tmp} {ty : TypeId} {pos : String} {aft : Array Edge} {gd : Option (Nat × Bool)}
class SlQH {α : outParam Type} (E : outParam (Enc α)) (L : List Asn) (a : Option Addr) (cap : outParam Nat) (xs : outParam (List α)) (f : outParam (Asn → List Asn)) : Prop where
  out : ∀ B, Rep (slQ E a cap xs) B L (f B)
instance SlQH.head {α : Type} {E : Enc α} {L : List Asn} {a : Option Addr} {cap : Nat} {xs : List α} : SlQH E (slQ E a cap xs :: L) a cap xs (fun B => B :: L) := ⟨fun _ => .head⟩
instance (priority := 900) SlQH.tail {α : Type} {E : Enc α} {A : Asn} {L : List Asn} {a : Option Addr} {cap : Nat} {xs : List α} {f : Asn → List Asn} [h : SlQH E L a cap xs f] : SlQH E (A :: L) a cap xs (fun B => A :: f B) := ⟨fun B => .tail (h.out B)⟩
end
section
variable {c : Cx} {F : Fr} {L : List Asn} {k : List Item} {ops : List Oper} {fuel m : Nat} {E : List Nat} {Lk : List Asn}
theorem JM.weaken {G : Fr} {M : List Asn} (hF : Picks F G) (hL : ∀ h, Sat h L → Sat h M) (h : JM c ops E fuel m Lk G M k) : JM c ops E fuel m Lk F L k := fun a w hse hcl hF' hs => h a w hse hcl (hF'.picks hF) (hL _ hs)
theorem JM.cut {ι : Type} {fuel1 m1 : Nat} (I : ι → Fr) (H : ι → List Asn) (h1 : ∀ x, JM c ops E fuel1 m1 Lk (I x) (H x) k) (h2 : (∀ x, JM c ops E fuel1 m1 Lk (I x) (H x) k) → JM c ops E fuel m Lk F L k) : JM c ops E fuel m Lk F L k := h2 h1
end
end Go.KK
