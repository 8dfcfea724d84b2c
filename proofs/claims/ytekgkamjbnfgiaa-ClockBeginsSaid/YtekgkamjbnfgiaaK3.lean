/-
  A part of the proof of the claim that this folder bears.
  This text: K3.
-/
import Derived.Test.YtekgkamjbnfgiaaK2
set_option linter.unusedVariables false
set_option linter.unusedSimpArgs false
namespace Go.KK

def aggB (P : Program) (t : TypeId) : Option Bool :=
  match P.underlying t with
  | some (.struct _) => some true
  | some (.array _ _) => some true
  | some _ => some false
  | none => none

class Scl (P : Program) (t : TypeId) : Prop where out : aggB P t = some false
class Agg (P : Program) (t : TypeId) (n : outParam Nat) : Prop where
  agg : aggB P t = some true
  size : (P.info? t).map (·.size) = some n
def fldB (P : Program) (s k : Nat) : Option (Nat × TypeId) :=
  match P.underlying s with
  | some (.struct fs) => match fs[k]? with
    | some f => match P.info? f.type with
      | some i => if i.size = 0 then none else some (f.offset, f.type)
      | none => none
    | none => none
  | _ => none
class Fld (P : Program) (s k : Nat) (off : outParam Nat) (ty : outParam Nat) : Prop where out : fldB P s k = some (off, ty)
def sltB (P : Program) (t : TypeId) : Option (TypeId × Nat × Nat × Value) :=
  match P.underlying t with
  | some (.slice e) => match P.info? e with
    | some i => match i.zero with
      | some z => if z.cells.size = i.size then some (e, i.size, i.bytes, z) else none
      | none => none
    | none => none
  | _ => none
theorem sltB_spec {P : Program} {t e m by_ : Nat} {z : Value} (h : sltB P t = some (e, m, by_, z)) : ∃ i, P.underlying t = some (.slice e) ∧ P.info? e = some i ∧ i.zero = some z ∧ i.size = m ∧ i.bytes = by_ ∧ z.cells.size = m := by
  unfold sltB at h
  split at h
  · rename_i e' hu
    split at h
    · rename_i i hi
      split at h
      · rename_i z' hz
        split at h
        · rename_i hc
          simp only [Option.some.injEq, Prod.mk.injEq] at h
          obtain ⟨rfl, rfl, rfl, rfl⟩ := h
          exact ⟨i, hu, hi, hz, rfl, rfl, hc⟩
        · cases h
      · cases h
    · cases h
  · cases h
class SlT (P : Program) (t : TypeId) (e m by_ : outParam Nat) (z : outParam Value) : Prop where out : sltB P t = some (e, m, by_, z)
def artB (P : Program) (t : TypeId) : Option (Nat × TypeId × Nat) :=
  match P.underlying t with
  | some (.array n e) => match P.info? e with
    | some i => some (n, e, i.size)
    | none => none
  | _ => none
class ArT (P : Program) (t : TypeId) (n e m : outParam Nat) : Prop where out : artB P t = some (n, e, m)

theorem Scl.run {P : Program} {t : TypeId} {w : World} (h : aggB P t = some false) : (isAgg t).run P w = .ok false w := by
  unfold aggB at h
  split at h <;> simp_all [isAgg, underlying, go_sem]
theorem Agg.run {P : Program} {t : TypeId} {w : World} (h : aggB P t = some true) : (isAgg t).run P w = .ok true w := by
  unfold aggB at h
  split at h <;> simp_all [isAgg, underlying, go_sem]
theorem run_sizeOf_of {P : Program} {t : TypeId} {n : Nat} {w : World} (h : (P.info? t).map (·.size) = some n) : (sizeOf t).run P w = .ok n w := by
  cases hi : P.info? t with
  | none => simp [hi] at h
  | some i => simp [hi] at h; subst h; simp [sizeOf, typeInfo, hi, go_sem]

/-- The operation only computes or reads: it yields v in every world that meets L. -/
def Pur (P : Program) (F : Fr) (L : List Asn) (o : Oper) (v : Value) : Prop :=
  ∀ (ρ : Operand → Value) (w : World), (∀ x u, ev F x = some u → ρ x = u) → Sat (hp w) L → (execOp ρ o).run P w = .ok (.value v) w

section
variable {P : Program} {F : Fr} {L : List Asn} {dst : Option Tmp} {ty : TypeId} {pos : String} {aft : Array Edge} {gd : Option (Nat × Bool)}

theorem Pur.move {x : Operand} {v : Value} (h : ev F x = some v) : Pur P F L ⟨dst, .move x, ty, pos, aft, gd⟩ v := fun ρ w hρ _ => by
  simp [execOp, hρ _ _ h, go_sem]
theorem Pur.assign {x : Operand} {v : Value} (h : ev F x = some v) : Pur P F L ⟨dst, .assign x, ty, pos, aft, gd⟩ v := fun ρ w hρ _ => by
  simp [execOp, hρ _ _ h, go_sem]
theorem Pur.pickT {x y z : Operand} {v : Value} (hx : ev F x = some (.bool true)) (hy : ev F y = some v) : Pur P F L ⟨dst, .pick x y z, ty, pos, aft, gd⟩ v := fun ρ w hρ _ => by
  simp [execOp, hρ _ _ hx, hρ _ _ hy, asBool, go_sem]
theorem Pur.pickF {x y z : Operand} {v : Value} (hx : ev F x = some (.bool false)) (hy : ev F z = some v) : Pur P F L ⟨dst, .pick x y z, ty, pos, aft, gd⟩ v := fun ρ w hρ _ => by
  simp [execOp, hρ _ _ hx, hρ _ _ hy, asBool, go_sem]
theorem Pur.nilCheck {x : Operand} {p : Addr} (hx : ev F x = some (.pointer (some p))) : Pur P F L ⟨dst, .nilCheck x, ty, pos, aft, gd⟩ (.pointer (some p)) := fun ρ w hρ _ => by
  simp [execOp, hρ _ _ hx, go_sem]
theorem Pur.fieldAddr {s k off fty : Nat} [hf : Fld P s k off fty] {x : Operand} {b o : Nat} (hx : ev F x = some (.pointer (some ⟨b, o, none⟩))) :
    Pur P F L ⟨dst, .fieldAddr s x k, ty, pos, aft, gd⟩ (.pointer (some ⟨b, o + off, none⟩)) := fun ρ w hρ _ => by
  have h := hf.out
  unfold fldB at h
  split at h
  · rename_i fs hs
    split at h
    · rename_i f hk
      split at h
      · rename_i i hi
        split at h
        · cases h
        · rename_i hz
          simp only [Option.some.injEq, Prod.mk.injEq] at h
          obtain ⟨h1, h2⟩ := h
          subst h1
          have hsz : (sizeOf f.type).run P w = .ok i.size w := run_sizeOf_of (by simp [hi])
          simp [execOp, Instr.fieldAt, hρ _ _ hx, hs, hk, underlying, Instr.sureAddr, fieldPlace, hsz, hz, go_sem]
      · cases h
    · cases h
  · cases h
theorem Pur.load {t : Nat} [hs : Scl P t] {x : Operand} {p : Addr} {v : Value} (hx : ev F x = some (.pointer (some p))) (hc : CellIn L p v) :
    Pur P F L ⟨dst, .load t x, ty, pos, aft, gd⟩ v := fun ρ w hρ hw => by
  have h1 := Scl.run (w := w) hs.out
  have h2 : w.cell? p = some v := hc _ hw
  simp [execOp, hρ _ _ hx, Instr.loadAt, Instr.sureAddr, loadVar, h1, h2, go_sem]

def CellsIn (L : List Asn) (p : Addr) (cs : List Value) : Prop := ∀ h, Sat h L → ∀ j v, cs[j]? = some v → cellH h ⟨p.block, p.off + j, none⟩ = some v
theorem Pur.loadA {t n : Nat} [hs : Agg P t n] {x : Operand} {p : Addr} {cs : List Value} (hx : ev F x = some (.pointer (some p))) (hp : p.spot = none) (hn : cs.length = n) (hc : CellsIn L p cs) :
    Pur P F L ⟨dst, .load t x, ty, pos, aft, gd⟩ (.agg cs.toArray) := fun ρ w hρ hw => by
  have h1 := Agg.run (w := w) hs.agg
  have h3 : (sizeOf t).run P w = .ok n w := run_sizeOf_of hs.size
  have h2 := run_loadCells_list (P := P) (w := w) p cs (fun j v hj => by
    have h := hc _ hw j v hj
    rw [cell?_eq]
    have : p.add j = ⟨p.block, p.off + j, none⟩ := by
      unfold Addr.add
      cases p
      simp at hp
      subst hp
      split <;> simp_all
    rw [this]; exact h)
  rw [hn] at h2
  unfold loadCells at h2
  simp [execOp, hρ _ _ hx, Instr.loadAt, Instr.sureAddr, loadVar, h1, h2, h3, go_sem]

theorem Pur.extract {x : Operand} {vs : Array Value} {i : Nat} {v : Value} (hx : ev F x = some (.tuple vs)) (hi : vs[i]? = some v) : Pur P F L ⟨dst, .extract x i, ty, pos, aft, gd⟩ v := fun ρ w hρ _ => by
  simp [execOp, hρ _ _ hx, Instr.extract, hi, go_sem]
theorem Pur.fieldS {s k off fty : Nat} [hf : Fld P s k off fty] [hs : Scl P fty] {x : Operand} {cs : Array Value} {v : Value} (hx : ev F x = some (.agg cs)) (hv : cs[off]? = some v) :
    Pur P F L ⟨dst, .field s x k, ty, pos, aft, gd⟩ v := fun ρ w hρ _ => by
  have h := hf.out
  have h1 := Scl.run (w := w) hs.out
  unfold fldB at h
  split at h
  · rename_i fs hu
    split at h
    · rename_i f hk
      split at h
      · split at h
        · cases h
        · simp only [Option.some.injEq, Prod.mk.injEq] at h
          obtain ⟨e1, e2⟩ := h
          subst e1; subst e2
          simp [execOp, Instr.field, hρ _ _ hx, hu, hk, underlying, part, asAgg, h1, hv, go_sem]
      · cases h
    · cases h
  · cases h
theorem Pur.fieldA {s k off fty n : Nat} [hf : Fld P s k off fty] [hs : Agg P fty n] {x : Operand} {cs : Array Value} {ds : Array Value} (hx : ev F x = some (.agg cs)) (hv : cs.extract off (off + n) = ds) :
    Pur P F L ⟨dst, .field s x k, ty, pos, aft, gd⟩ (.agg ds) := fun ρ w hρ _ => by
  have h := hf.out
  have h1 := Agg.run (w := w) hs.agg
  have h3 : (sizeOf fty).run P w = .ok n w := run_sizeOf_of hs.size
  unfold fldB at h
  split at h
  · rename_i fs hu
    split at h
    · rename_i f hk
      split at h
      · split at h
        · cases h
        · simp only [Option.some.injEq, Prod.mk.injEq] at h
          obtain ⟨e1, e2⟩ := h
          subst e1; subst e2; subst hv
          simp [execOp, Instr.field, hρ _ _ hx, hu, hk, underlying, part, asAgg, h1, h3, go_sem]
      · cases h
    · cases h
  · cases h
theorem Pur.indexS {t n e m : Nat} [ha : ArT P t n e m] [hs : Scl P e] {x ix : Operand} {cs : Array Value} {k : IntKind} {i : Int} {v : Value} (hx : ev F x = some (.agg cs)) (hi : ev F ix = some (.int k i)) (h0 : 0 ≤ i) (hn : i < (n : Int)) (hv : cs[i.toNat * m]? = some v) :
    Pur P F L ⟨dst, .index t x ix, ty, pos, aft, gd⟩ v := fun ρ w hρ _ => by
  have h := ha.out
  have h1 := Scl.run (w := w) hs.out
  unfold artB at h
  split at h
  · rename_i n' e' hu
    split at h
    · rename_i i' hi'
      simp only [Option.some.injEq, Prod.mk.injEq] at h
      obtain ⟨e1, e2, e3⟩ := h
      subst e1; subst e2; subst e3
      have h3 : (sizeOf e').run P w = .ok i'.size w := run_sizeOf_of (by simp [hi'])
      simp [execOp, Instr.index, hρ _ _ hx, hρ _ _ hi, asIntOf, hu, underlying, h0, hn, h3, part, h1, hv, go_sem]
    · cases h
  · cases h

/-- The place of an element, of a part. -/
def el (a : Option Addr) (m i : Nat) : Addr := ⟨(a.getD default).block, (a.getD default).off + i * m, none⟩

theorem Pur.indexAddr {t e m by_ : Nat} {z : Value} [ha : SlT P t e m by_ z] {x ix : Operand} {a : Option Addr} {len cap : Nat} {k : IntKind} {i : Int} (hx : ev F x = some (.slice a len cap)) (hi : ev F ix = some (.int k i))
    (h0 : 0 ≤ i) (hn : i < (len : Int)) (hs : ∀ h, Sat h L → ∃ b o, a = some ⟨b, o, none⟩) :
    Pur P F L ⟨dst, .indexAddr t x ix, ty, pos, aft, gd⟩ (.pointer (some (el a m i.toNat))) := fun ρ w hρ hw => by
  obtain ⟨b, o, ha'⟩ := hs _ hw
  subst ha'
  obtain ⟨i', hu, hi', hz', rfl, rfl, _⟩ := sltB_spec ha.out
  have h3 : (sizeOf e).run P w = .ok i'.size w := run_sizeOf_of (by simp [hi'])
  simp [execOp, Instr.indexAt, hρ _ _ hx, hρ _ _ hi, asIntOf, hu, underlying, h0, hn, h3, go_sem]
  simp [el]

/-! Arithmetic, comparison. -/
theorem Pur.add {t t' : Nat} {x y : Operand} {k : IntKind} {a b : Int} (hx : ev F x = some (.int k a)) (hy : ev F y = some (.int k b)) (h : k.wrap (a + b) = a + b) :
    Pur P F L ⟨dst, .binOp .add t x y t', ty, pos, aft, gd⟩ (.int k (a + b)) := fun ρ w hρ _ => by
  simp [execOp, hρ _ _ hx, hρ _ _ hy, eqGuard, binOp, Op.intArith, h, go_sem]
theorem Pur.sub {t t' : Nat} {x y : Operand} {k : IntKind} {a b : Int} (hx : ev F x = some (.int k a)) (hy : ev F y = some (.int k b)) (h : k.wrap (a - b) = a - b) :
    Pur P F L ⟨dst, .binOp .sub t x y t', ty, pos, aft, gd⟩ (.int k (a - b)) := fun ρ w hρ _ => by
  simp [execOp, hρ _ _ hx, hρ _ _ hy, eqGuard, binOp, Op.intArith, h, go_sem]
theorem Pur.mul {t t' : Nat} {x y : Operand} {k : IntKind} {a b : Int} (hx : ev F x = some (.int k a)) (hy : ev F y = some (.int k b)) (h : k.wrap (a * b) = a * b) :
    Pur P F L ⟨dst, .binOp .mul t x y t', ty, pos, aft, gd⟩ (.int k (a * b)) := fun ρ w hρ _ => by
  simp [execOp, hρ _ _ hx, hρ _ _ hy, eqGuard, binOp, Op.intArith, h, go_sem]
theorem Pur.addW {t t' : Nat} {x y : Operand} {k : IntKind} {a b : Int} (hx : ev F x = some (.int k a)) (hy : ev F y = some (.int k b)) :
    Pur P F L ⟨dst, .binOp .add t x y t', ty, pos, aft, gd⟩ (.int k (k.wrap (a + b))) := fun ρ w hρ _ => by
  simp [execOp, hρ _ _ hx, hρ _ _ hy, eqGuard, binOp, Op.intArith, go_sem]
theorem Pur.subW {t t' : Nat} {x y : Operand} {k : IntKind} {a b : Int} (hx : ev F x = some (.int k a)) (hy : ev F y = some (.int k b)) :
    Pur P F L ⟨dst, .binOp .sub t x y t', ty, pos, aft, gd⟩ (.int k (k.wrap (a - b))) := fun ρ w hρ _ => by
  simp [execOp, hρ _ _ hx, hρ _ _ hy, eqGuard, binOp, Op.intArith, go_sem]
theorem Pur.mulW {t t' : Nat} {x y : Operand} {k : IntKind} {a b : Int} (hx : ev F x = some (.int k a)) (hy : ev F y = some (.int k b)) :
    Pur P F L ⟨dst, .binOp .mul t x y t', ty, pos, aft, gd⟩ (.int k (k.wrap (a * b))) := fun ρ w hρ _ => by
  simp [execOp, hρ _ _ hx, hρ _ _ hy, eqGuard, binOp, Op.intArith, go_sem]
theorem Pur.quo {t t' : Nat} {x y : Operand} {k : IntKind} {a b : Int} (hx : ev F x = some (.int k a)) (hy : ev F y = some (.int k b)) (hb : b ≠ 0) :
    Pur P F L ⟨dst, .binOp .quo t x y t', ty, pos, aft, gd⟩ (.int k (k.wrap (a.tdiv b))) := fun ρ w hρ _ => by
  simp [execOp, hρ _ _ hx, hρ _ _ hy, eqGuard, binOp, Op.intDiv, hb, go_sem]
theorem Pur.rem {t t' : Nat} {x y : Operand} {k : IntKind} {a b : Int} (hx : ev F x = some (.int k a)) (hy : ev F y = some (.int k b)) (hb : b ≠ 0) :
    Pur P F L ⟨dst, .binOp .rem t x y t', ty, pos, aft, gd⟩ (.int k (a.tmod b)) := fun ρ w hρ _ => by
  simp [execOp, hρ _ _ hx, hρ _ _ hy, eqGuard, binOp, Op.intDiv, hb, go_sem]
theorem Pur.lss {t t' : Nat} {x y : Operand} {k : IntKind} {a b : Int} (hx : ev F x = some (.int k a)) (hy : ev F y = some (.int k b)) :
    Pur P F L ⟨dst, .binOp .lss t x y t', ty, pos, aft, gd⟩ (.bool (decide (a < b))) := fun ρ w hρ _ => by
  simp [execOp, hρ _ _ hx, hρ _ _ hy, eqGuard, binOp, Op.intCmp, go_sem]
theorem Pur.leq {t t' : Nat} {x y : Operand} {k : IntKind} {a b : Int} (hx : ev F x = some (.int k a)) (hy : ev F y = some (.int k b)) :
    Pur P F L ⟨dst, .binOp .leq t x y t', ty, pos, aft, gd⟩ (.bool (decide (a ≤ b))) := fun ρ w hρ _ => by
  simp [execOp, hρ _ _ hx, hρ _ _ hy, eqGuard, binOp, Op.intCmp, go_sem]
theorem Pur.gtr {t t' : Nat} {x y : Operand} {k : IntKind} {a b : Int} (hx : ev F x = some (.int k a)) (hy : ev F y = some (.int k b)) :
    Pur P F L ⟨dst, .binOp .gtr t x y t', ty, pos, aft, gd⟩ (.bool (decide (b < a))) := fun ρ w hρ _ => by
  simp [execOp, hρ _ _ hx, hρ _ _ hy, eqGuard, binOp, Op.intCmp, go_sem]
theorem Pur.geq {t t' : Nat} {x y : Operand} {k : IntKind} {a b : Int} (hx : ev F x = some (.int k a)) (hy : ev F y = some (.int k b)) :
    Pur P F L ⟨dst, .binOp .geq t x y t', ty, pos, aft, gd⟩ (.bool (decide (b ≤ a))) := fun ρ w hρ _ => by
  simp [execOp, hρ _ _ hx, hρ _ _ hy, eqGuard, binOp, Op.intCmp, go_sem]
theorem Pur.eqlI {t t' : Nat} {x y : Operand} {k : IntKind} {a b : Int} (hx : ev F x = some (.int k a)) (hy : ev F y = some (.int k b)) :
    Pur P F L ⟨dst, .binOp .eql t x y t', ty, pos, aft, gd⟩ (.bool (decide (a = b))) := fun ρ w hρ _ => by
  simp [execOp, hρ _ _ hx, hρ _ _ hy, eqGuard, binOp, Op.intCmp, go_sem]
  rw [Bool.eq_iff_iff]; simp
theorem Pur.neqI {t t' : Nat} {x y : Operand} {k : IntKind} {a b : Int} (hx : ev F x = some (.int k a)) (hy : ev F y = some (.int k b)) :
    Pur P F L ⟨dst, .binOp .neq t x y t', ty, pos, aft, gd⟩ (.bool (decide (a ≠ b))) := fun ρ w hρ _ => by
  simp [execOp, hρ _ _ hx, hρ _ _ hy, eqGuard, binOp, Op.intCmp, go_sem]
  rw [Bool.eq_iff_iff]; simp
theorem Pur.not {t : Nat} {x : Operand} {b : Bool} (hx : ev F x = some (.bool b)) : Pur P F L ⟨dst, .unOp .not t x, ty, pos, aft, gd⟩ (.bool (!b)) := fun ρ w hρ _ => by
  simp [execOp, hρ _ _ hx, Op.unary, go_sem]
theorem Pur.neg {t : Nat} {x : Operand} {k : IntKind} {a : Int} (hx : ev F x = some (.int k a)) : Pur P F L ⟨dst, .unOp .neg t x, ty, pos, aft, gd⟩ (.int k (k.wrap (-a))) := fun ρ w hρ _ => by
  simp [execOp, hρ _ _ hx, Op.unary, go_sem]
end
end Go.KK
