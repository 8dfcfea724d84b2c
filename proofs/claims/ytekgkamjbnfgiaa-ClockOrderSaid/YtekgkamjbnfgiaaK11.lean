/-
  A part of the proof of the claim that this folder bears.
  This text: K11.
-/
import Derived.Test.YtekgkamjbnfgiaaK10
set_option linter.unusedVariables false
set_option linter.unusedSimpArgs false
namespace Go.KK
section
variable {P : Program} {F : Fr} {L : List Asn} {dst : Option Tmp} {ty : TypeId} {pos : String} {aft : Array Edge} {gd : Option (Nat × Bool)}

theorem Pur.idxA {t n e m : Nat} [ha : ArT P t n e m] {x ix : Operand} {b o : Nat} {kd : IntKind} {i : Int} {k : Nat} (hx : ev F x = some (.pointer (some ⟨b, o, none⟩))) (hi : ev F ix = some (.int kd i))
    (hik : i = (k : Int)) (hk : k < n) : Pur P F L ⟨dst, .indexAddr t x ix, ty, pos, aft, gd⟩ (.pointer (some ⟨b, o + k * m, none⟩)) := fun ρ w hρ _ => by
  have h := ha.out
  subst hik
  unfold artB at h
  split at h
  · rename_i n' e' hu
    split at h
    · rename_i i' hi'
      simp only [Option.some.injEq, Prod.mk.injEq] at h
      obtain ⟨rfl, rfl, rfl⟩ := h
      have h3 : (sizeOf e').run P w = .ok i'.size w := run_sizeOf_of (by simp [hi'])
      have h0 : (0 : Int) ≤ (k : Int) := by omega
      have h1 : (k : Int) < (n' : Int) := by omega
      simp [execOp, Instr.indexAt, hρ _ _ hx, hρ _ _ hi, asIntOf, hu, underlying, h1, h3, Instr.sureAddr, go_sem]
      intro hh; omega
    · cases h
  · cases h

theorem Eff.storeBA {t n : Nat} [h1 : Agg P t n] {x y : Operand} {b : Nat} {cs cs' : List Value} {T : TypeId} {f : Obj → List Asn}
    (hx : ev F x = some (.pointer (some ⟨b, 0, none⟩))) (hy : ev F y = some (.agg cs'.toArray)) [hb : BlkH L b (.cells cs.toArray T (0, 0)) f] (hl : cs.length = n) (hl' : cs'.length = n) (hv : cs'.all (·.oneCell') = true) :
    Eff P F L ⟨dst, .store t x y, ty, pos, aft, gd⟩ (fun u M => u = undef ∧ M = f (.cells cs'.toArray T (0, 0))) := Eff.of_skip fun ρ w hρ hs => by
  have hr := hb.out (.cells cs'.toArray T (0, 0))
  obtain ⟨R, p1, p2⟩ := hr.perm
  have hs1 := hs.perm p1
  have hbw : hp w b = some (.cells cs.toArray T (0, 0)) := BlkIn.head.out _ hs1
  have hst := run_storeVar_row (P := P) w b T t cs.toArray cs'.toArray hbw (by rw [h1.size]; simp [hl']) (by simp [hl, hl']) (by simpa using hv)
  refine ⟨w.setRow b cs'.toArray, f (.cells cs'.toArray T (0, 0)), ?_, ⟨rfl, rfl⟩, rfl, ?_⟩
  · have he : execOp ρ ⟨dst, .store t x y, ty, pos, aft, gd⟩ = (do Instr.storeAt t (ρ x) (ρ y); pure .skip) := rfl
    rw [he, Sem.run_bind, hρ _ _ hx, hρ _ _ hy]
    have : (Instr.storeAt t (.pointer (some ⟨b, 0, none⟩)) (.agg cs'.toArray)).run P w = .ok () (w.setRow b cs'.toArray) := by
      simp only [Instr.storeAt, Instr.sureAddr, Sem.run_bind, Sem.run_pure, Result.andThen_ok]
      exact hst
    rw [this]; rfl
  · have e : hp (w.setRow b cs'.toArray) = Hp.upd (hp w) b (.cells cs'.toArray T (0, 0)) := by
      funext z
      unfold Hp.upd
      by_cases h : z = b
      · subst h; simp only [if_true]; exact setRow_heap w z cs.toArray _ T _ hbw
      · simp only [h, if_false]; exact setRow_other w b z _ h
    rw [e]
    exact Sat.perm p2.symm hs1.upd
end
end Go.KK
