/-
  A part of the proof of the claim that this folder bears.
  This text: K8.
-/
import Derived.Test.YtekgkamjbnfgiaaK7
set_option linter.unusedVariables false
set_option linter.unusedSimpArgs false
namespace Go.KK

theorem run_mapM_loop {α β : Type} (P : Program) (w : World) (g : α → Sem β) (f : α → β) : ∀ (xs : List α) (acc : List β), (∀ x ∈ xs, (g x).run P w = .ok (f x) w) → (List.mapM.loop g xs acc).run P w = .ok (acc.reverse ++ xs.map f) w
  | [], acc, h => by simp [List.mapM.loop]
  | x :: xs, acc, h => by
    have e : List.mapM.loop g (x :: xs) acc = (do let v ← g x; List.mapM.loop g xs (v :: acc)) := rfl
    rw [e, Sem.run_bind, h x (by simp)]
    simp only [Result.andThen]
    rw [run_mapM_loop P w g f xs _ (fun y hy => h y (by simp [hy]))]
    simp
theorem run_mapM_arr {α β : Type} (P : Program) (w : World) (g : α → Sem β) (f : α → β) (xs : Array α) (h : ∀ x ∈ xs, (g x).run P w = .ok (f x) w) : (xs.mapM g).run P w = .ok (xs.map f) w := by
  have e : xs = xs.toList.toArray := Array.toArray_toList.symm
  rw [e, List.mapM_toArray]
  simp only [Functor.map, List.mapM]
  rw [Sem.run_bind', run_mapM_loop P w g f xs.toList [] (fun x hx => h x (by simpa using hx))]
  show Result.ok _ w = _
  congr 1
  simp [← List.map_toArray]

def fpl (P : Program) (f : Field) : Nat × Nat := (f.offset, ((P.info? f.type).map (·.size)).getD 0)
def plB (P : Program) (t : TypeId) : Option (List Value × List (Nat × Nat)) :=
  match P.info? t with
  | some i => match i.zero with
    | some z => match P.underlying t with
      | some (.struct fs) => if fs.all (fun f => (P.info? f.type).isSome) then some (z.cells.toList, fs.toList.map (fpl P)) else none
      | some (.array n e) => match P.info? e with
        | some j => some (z.cells.toList, (List.range n).map fun k => (k * j.size, j.size))
        | none => none
      | _ => none
    | none => none
  | none => none
class StT (P : Program) (t : TypeId) (zs : outParam (List Value)) (pl : outParam (List (Nat × Nat))) : Prop where out : plB P t = some (zs, pl)

def bld (pl : List (Nat × Nat)) : List Value → List (Nat × Value) → Option (List Value)
  | cs, [] => some cs
  | cs, (i, v) :: ps => match pl[i]? with
    | some (off, size) => bif Nat.beq v.cells.toList.length size && Nat.ble (off + size) cs.length then bld pl (splice cs off v.cells.toList) ps else none
    | none => none

theorem bld_fill {pl : List (Nat × Nat)} {place : Nat → Option (Nat × Nat)} (hp : ∀ (i : Nat) (p : Nat × Nat), pl[i]? = some p → place i = some p) : ∀ (ps : List (Nat × Value)) (cs cs' : List Value), bld pl cs ps = some cs' → Instr.fill place cs.toArray ps = some cs'.toArray
  | [], cs, cs', h => by simp [bld] at h; subst h; rfl
  | (i, v) :: ps, cs, cs', h => by
    simp only [bld] at h
    split at h
    · rename_i off size hpl
      cases hc : (Nat.beq v.cells.toList.length size && Nat.ble (off + size) cs.length) with
      | false => rw [hc] at h; simp at h
      | true =>
        rw [hc] at h
        simp only [cond_true] at h
        simp only [Bool.and_eq_true] at hc
        have h1 := Nat.eq_of_beq_eq_true hc.1
        have h2 := Nat.le_of_ble_eq_true hc.2
        rw [fill_cons (hp i _ hpl) (vs := v.cells.toList) (Array.toArray_toList.symm) h1 h2]
        exact bld_fill hp ps _ _ h
    · cases h

section
variable {P : Program} {F : Fr} {L : List Asn} {dst : Option Tmp} {ty : TypeId} {pos : String} {aft : Array Edge} {gd : Option (Nat × Bool)}

theorem parts_map {ρ : Operand → Value} (hρ : ∀ x u, ev F x = some u → ρ x = u) {parts : List (Nat × Operand)} {vs : List Value} (hv : evL F (parts.map (·.2)) = some vs) :
    (parts.toArray.map fun (p : Nat × Operand) => (p.1, ρ p.2)).toList = (parts.map (·.1)).zip vs := by
  have h1 := evL_ok hρ hv
  have hz : ∀ ps : List (Nat × Operand), (ps.map fun (p : Nat × Operand) => (p.1, ρ p.2)) = (ps.map (·.1)).zip ((ps.map (·.2)).map ρ) := by
    intro ps
    induction ps with
    | nil => rfl
    | cons p ps ih => simpa using ih
  rw [← h1]
  simpa using hz parts

theorem Pur.build {t : Nat} {zs : List Value} {pl : List (Nat × Nat)} [hs : StT P t zs pl] {parts : List (Nat × Operand)} {vs cs : List Value} (hv : evL F (parts.map (·.2)) = some vs) (hb : bld pl zs ((parts.map (·.1)).zip vs) = some cs) :
    Pur P F L ⟨dst, .build t parts.toArray, ty, pos, aft, gd⟩ (.agg cs.toArray) := fun ρ w hρ _ => by
  have hl := parts_map hρ hv
  have h := hs.out
  have he : execOp ρ ⟨dst, .build t parts.toArray, ty, pos, aft, gd⟩ = (do pure (.value (← Instr.build t (parts.toArray.map fun (p : Nat × Operand) => (p.1, ρ p.2))))) := rfl
  have hr : (Instr.build t (parts.toArray.map fun (p : Nat × Operand) => (p.1, ρ p.2))).run P w = .ok (.agg cs.toArray) w := by
    unfold plB at h
    split at h
    · rename_i i hi
      split at h
      · rename_i z hz
        have hzv : (zeroValue t).run P w = .ok z w := by simp [zeroValue, typeInfo, hi, hz, go_sem]
        unfold Instr.build
        rw [hl]
        split at h
        · rename_i fs hu
          split at h
          · rename_i hall
            simp only [Option.some.injEq, Prod.mk.injEq] at h
            obtain ⟨rfl, rfl⟩ := h
            have hm : (fs.mapM (m := Sem) fun f => do pure (f.offset, ← sizeOf f.type)).run P w = .ok (fs.map (fpl P)) w := run_mapM_arr P w _ _ fs (fun f hf => by
              have := (Array.all_eq_true_iff_forall_mem.1 hall) f hf
              cases hfi : P.info? f.type with
              | none => simp [hfi] at this
              | some j =>
                have h3 : (sizeOf f.type).run P w = .ok j.size w := run_sizeOf_of (by simp [hfi])
                simp [h3, fpl, hfi])
            have hf := bld_fill (place := fun i => (fs.map (fpl P))[i]?) (fun i p hp => by simpa using hp) _ _ _ hb
            have hund : (underlying t).run P w = .ok (.struct fs) w := run_underlying hu w
            rw [Sem.run_bind, hzv]
            simp only [Result.andThen, Sem.run_bind, hund]
            rw [hm]
            rw [Array.toArray_toList] at hf
            simp only [hf]
            rfl
          · cases h
        · rename_i n e hu
          split at h
          · rename_i j hj
            simp only [Option.some.injEq, Prod.mk.injEq] at h
            obtain ⟨rfl, rfl⟩ := h
            have h3 : (sizeOf e).run P w = .ok j.size w := run_sizeOf_of (by simp [hj])
            have hf := bld_fill (place := fun i => some (i * j.size, j.size)) (fun i p hp => by
              simp only [List.getElem?_map, List.getElem?_range, Option.map_eq_some_iff] at hp
              obtain ⟨k, hk, rfl⟩ := hp
              have := List.getElem?_eq_some_iff.1 hk
              obtain ⟨h1, h2⟩ := this
              simp at h2
              simp [h2]) _ _ _ hb
            have hund : (underlying t).run P w = .ok (.array n e) w := run_underlying hu w
            rw [Sem.run_bind, hzv]
            simp only [Result.andThen, Sem.run_bind, hund, h3]
            rw [Array.toArray_toList] at hf
            simp only [hf]
            rfl
          · cases h
        · cases h
      · cases h
    · cases h
  rw [he, Sem.run_bind, hr]
  rfl
end
end Go.KK
