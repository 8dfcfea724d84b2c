/-
  A part of the proof of the claim that this folder bears.
  This text: K21.
-/
import Derived.Test.YtekgkamjbnfgiaaK20
set_option linter.unusedVariables false
set_option linter.unusedSimpArgs false
namespace Go.KK
section
variable {P : Program} {F : Fr} {L : List Asn} {dst : Option Tmp} {ty : TypeId} {pos : String} {aft : Array Edge} {gd : Option (Nat × Bool)}
theorem Pur.max2 {x y : Operand} {k : IntKind} {a b : Int} {tys : Array TypeId} (hx : ev F x = some (.int k a)) (hy : ev F y = some (.int k b)) :
    Pur P F L ⟨dst, .call ⟨.builtin .max, #[x, y], tys⟩, ty, pos, aft, gd⟩ (.int k (max a b)) := fun ρ w hρ _ => by
  have e : (if b > a then b else a) = max a b := by split <;> omega
  simp [execOp, resolve, invoke, builtin, Builtin.max_, Builtin.max2, hρ _ _ hx, hρ _ _ hy, go_sem]
  exact e
theorem Pur.min2 {x y : Operand} {k : IntKind} {a b : Int} {tys : Array TypeId} (hx : ev F x = some (.int k a)) (hy : ev F y = some (.int k b)) :
    Pur P F L ⟨dst, .call ⟨.builtin .min, #[x, y], tys⟩, ty, pos, aft, gd⟩ (.int k (min a b)) := fun ρ w hρ _ => by
  have e : (if b < a then b else a) = min a b := by split <;> omega
  simp [execOp, resolve, invoke, builtin, Builtin.min_, Builtin.min2, hρ _ _ hx, hρ _ _ hy, go_sem]
  exact e
end
end Go.KK
