/-
  A part of the proof of the claim that this folder bears.
  This text: K7.
-/
import Derived.Test.YtekgkamjbnfgiaaK6
set_option linter.unusedVariables false
set_option linter.unusedSimpArgs false
namespace Go.KK

theorem hp_size (w : World) : hp w w.heap.size = none := by simp [hp]
theorem hp_push (w : World) (o : Obj) : hp { w with heap := w.heap.push o } = Hp.upd (hp w) w.heap.size o := by
  funext x
  unfold hp Hp.upd
  simp only [Array.getElem?_push]

section
variable {P : Program} {F : Fr} {L : List Asn} {dst : Option Tmp} {ty : TypeId} {pos : String} {aft : Array Edge} {gd : Option (Nat × Bool)}

theorem run_newRow (w : World) (e : TypeId) (cs : Array Value) : (newRow e cs).run P w = .ok ⟨w.heap.size, 0, none⟩ { w with heap := w.heap.push (.cells cs e) } := rfl

theorem Eff.box {t : Nat} {x : Operand} {v : Value} {cs : List Value} (hx : ev F x = some v) (hc : v.cells = cs.toArray) :
    Eff P F L ⟨dst, .box t x, ty, pos, aft, gd⟩ (fun u M => ∃ b, u = .pointer (some ⟨b, 0, none⟩) ∧ M = blk b (.cells cs.toArray t (0, 0)) :: L) := Eff.of_run fun ρ w hρ hs => by
  refine ⟨.pointer (some ⟨w.heap.size, 0, none⟩), { w with heap := w.heap.push (.cells cs.toArray t) }, _, ?_, ⟨w.heap.size, rfl, rfl⟩, rfl, ?_⟩
  · rw [← hc, ← hρ _ _ hx]; rfl
  · rw [hp_push]; exact Sat.new (hp_size w) hs

class ZeT (P : Program) (t : TypeId) (z : outParam Value) : Prop where out : (P.info? t).bind (·.zero) = some z
theorem Eff.alloc {t : Nat} {z : Value} [hz : ZeT P t z] {cs : List Value} (hc : z.cells = cs.toArray) :
    Eff P F L ⟨dst, .alloc t, ty, pos, aft, gd⟩ (fun u M => ∃ b, u = .pointer (some ⟨b, 0, none⟩) ∧ M = blk b (.cells cs.toArray t (0, 0)) :: L) := Eff.of_run fun ρ w hρ hs => by
  refine ⟨.pointer (some ⟨w.heap.size, 0, none⟩), { w with heap := w.heap.push (.cells cs.toArray t) }, _, ?_, ⟨w.heap.size, rfl, rfl⟩, rfl, ?_⟩
  · have h := hz.out
    cases hi : P.info? t with
    | none => simp [hi] at h
    | some i =>
      simp [hi] at h
      have hzv : (zeroValue t).run P w = .ok z w := by simp [zeroValue, typeInfo, hi, h, go_sem]
      have hnv : (newVar t z).run P w = .ok ⟨w.heap.size, 0, none⟩ { w with heap := w.heap.push (.cells cs.toArray t) } := by unfold newVar; rw [hc]; rfl
      simp only [execOp, Instr.alloc]
      simp [hzv, hnv]
  · rw [hp_push]; exact Sat.new (hp_size w) hs

/-! A row of cells filled. -/
def splice (cs : List Value) (off : Nat) (vs : List Value) : List Value := cs.take off ++ vs ++ cs.drop (off + vs.length)

theorem foldl_set : ∀ (l : List Value) (k off : Nat) (cs : Array Value), off + k + l.length ≤ cs.size →
    ((l.zipIdx k).foldl (fun cs (p : Value × Nat) => cs.setIfInBounds (off + p.2) p.1) cs).toList = cs.toList.take (off + k) ++ l ++ cs.toList.drop (off + k + l.length)
  | [], k, off, cs, h => by simp
  | v :: l, k, off, cs, h => by
    simp only [List.length_cons] at h
    simp only [List.zipIdx_cons, List.foldl_cons]
    rw [foldl_set l (k + 1) off _ (by simp; omega)]
    have hlt : off + k < cs.toList.length := by simp; omega
    have e1 : (cs.setIfInBounds (off + k) v).toList.take (off + (k + 1)) = cs.toList.take (off + k) ++ [v] := by
      rw [Array.toList_setIfInBounds, ← Nat.add_assoc, List.take_add_one]
      simp only [List.getElem?_set_self hlt, Option.toList_some, List.take_set]
      congr 1
      rw [List.set_eq_of_length_le (by simp; omega)]
    have e2 : (cs.setIfInBounds (off + k) v).toList.drop (off + (k + 1) + l.length) = cs.toList.drop (off + k + (v :: l).length) := by
      rw [Array.toList_setIfInBounds, List.drop_set_of_lt (by omega)]
      congr 1
      simp; omega
    rw [e1, e2]
    simp

theorem fill_cons {place : Nat → Option (Nat × Nat)} {cells : List Value} {i off size : Nat} {v : Value} {vs : List Value} {ps : List (Nat × Value)} (hp : place i = some (off, size)) (hv : v.cells = vs.toArray) (hs : vs.length = size) (hf : off + size ≤ cells.length) :
    Instr.fill place cells.toArray ((i, v) :: ps) = Instr.fill place (splice cells off vs).toArray ps := by
  simp only [Instr.fill, hp, hv]
  rw [if_neg (by simp; omega)]
  congr 1
  apply Array.ext'
  have := foldl_set vs 0 off cells.toArray (by simp; omega)
  simp only [Nat.add_zero] at this
  rw [← Array.foldl_toList]
  simpa [splice] using this

theorem fill_seq {α : Type} (E : Enc α) : ∀ (xs : List α) (vs : List Value) (k : Nat) (done rest : List Value), (vs.map (fun v => v.cells.toList) = xs.map E.enc) → done.length = k * E.m → rest.length = xs.length * E.m →
    Instr.fill (fun i => some (i * E.m, E.m)) (done ++ rest).toArray ((List.range' k vs.length).zip vs) = some (done ++ E.all xs).toArray
  | [], vs, k, done, rest, h, hd, hr => by
    have : vs = [] := by simpa using h
    subst this
    have hr' : rest = [] := by simpa using hr
    subst hr'
    simp [Instr.fill, Enc.all]
  | x :: xs, [], k, done, rest, h, hd, hr => by simp at h
  | x :: xs, v :: vs, k, done, rest, h, hd, hr => by
    simp only [List.map_cons, List.cons.injEq] at h
    obtain ⟨h1, h2⟩ := h
    have hlen : (E.enc x).length = E.m := E.len x
    have hr2 : rest.length = xs.length * E.m + E.m := by rw [hr, List.length_cons, Nat.add_mul]; omega
    simp only [List.length_cons, List.range'_succ, List.zip_cons_cons]
    rw [fill_cons (off := k * E.m) (size := E.m) (vs := E.enc x) rfl (by rw [← h1]) hlen (by simp [hd]; omega)]
    have e : splice (done ++ rest) (k * E.m) (E.enc x) = (done ++ E.enc x) ++ rest.drop E.m := by
      unfold splice
      rw [← hd, List.take_left, hlen, List.drop_append]
      simp
    rw [e, fill_seq E xs vs (k + 1) (done ++ E.enc x) (rest.drop E.m) h2 (by simp [hd, hlen, Nat.add_mul]) (by simp; omega)]
    simp [Enc.all]

theorem Eff.buildSlice {α : Type} (E : Enc α) (xs : List α) {t e m by_ n : Nat} {z : Value} [ha : SlT P t e m by_ z] {parts : List (Nat × Operand)} {vs : List Value}
    (hT : E.T = e) (hm : E.m = m) (hv : evL F (parts.map (·.2)) = some vs) (hi : parts.map (·.1) = List.range' 0 n) (hx : vs.map (fun v => v.cells.toList) = xs.map E.enc) (hn : Nat.ble (n * m) 16777216 = true) (hcap : Nat.ble n 1000000 = true) :
    Eff P F L ⟨dst, .buildSlice t n parts.toArray, ty, pos, aft, gd⟩ (fun u M => ∃ b, u = .slice (some ⟨b, 0, none⟩) n n ∧ xs.length = n ∧ M = sl E (some ⟨b, 0, none⟩) n xs :: L) := Eff.of_run fun ρ w hρ hs => by
  obtain ⟨i', hu, hi', hz', rfl, rfl, hzc⟩ := sltB_spec ha.out
  have hnm : n * i'.size ≤ 16777216 := Nat.le_of_ble_eq_true hn
  have hn' : n ≤ 1000000 := Nat.le_of_ble_eq_true hcap
  have hlv : vs.length = n := by
    have h1 := evL_ok hρ hv
    have h2 : (parts.map (·.2)).length = (parts.map (·.1)).length := by simp
    rw [hi] at h2
    rw [← h1]; simpa using h2
  have hlx : xs.length = n := by rw [← hlv]; simpa using (congrArg List.length hx).symm
  have hparts : (parts.map fun (p : Nat × Operand) => (p.1, ρ p.2)) = (List.range' 0 n).zip vs := by
    have h1 := evL_ok hρ hv
    rw [← hi, ← h1]
    have hz : ∀ ps : List (Nat × Operand), (ps.map fun (p : Nat × Operand) => (p.1, ρ p.2)) = (ps.map (·.1)).zip ((ps.map (·.2)).map ρ) := by
      intro ps
      induction ps with
      | nil => rfl
      | cons p ps ih => simpa using ih
    exact hz parts
  refine ⟨.slice (some ⟨w.heap.size, 0, none⟩) n n, { w with heap := w.heap.push (.cells (E.all xs).toArray e) }, _, ?_, ⟨w.heap.size, rfl, hlx, rfl⟩, rfl, ?_⟩
  · have h3 : (sizeOf e).run P w = .ok i'.size w := run_sizeOf_of (by simp [hi'])
    have hzv : (zeroValue e).run P w = .ok z w := by simp [zeroValue, typeInfo, hi', hz', go_sem]
    have hzero : ∀ (zs : Array Value), ∃ rest : List Value, rest.length = n * i'.size ∧ (Array.range (n * i'.size)).map (fun x => zs[x % zs.size]!) = rest.toArray := fun zs =>
      ⟨((Array.range (n * i'.size)).map (fun x => zs[x % zs.size]!)).toList, by simp, Array.toArray_toList.symm⟩
    have hfill : ∀ zs : Array Value, Instr.fill (fun i => some (i * i'.size, i'.size)) ((Array.range (n * i'.size)).map (fun x => zs[x % zs.size]!)) ((List.range' 0 n).zip vs) = some (E.all xs).toArray := fun zs => by
      obtain ⟨rest, hr1, hr2⟩ := hzero zs
      rw [hr2]
      have := fill_seq E xs vs 0 [] rest hx (by simp) (by rw [hr1, hlx, hm])
      rw [hlv, hm] at this
      simpa using this
    have hb : (Instr.buildSlice t n (parts.toArray.map fun (p : Nat × Operand) => (p.1, ρ p.2))).run P w = .ok (.slice (some ⟨w.heap.size, 0, none⟩) n n) { w with heap := w.heap.push (.cells (E.all xs).toArray e) } := by
      have hl : (parts.toArray.map fun (p : Nat × Operand) => (p.1, ρ p.2)).toList = (List.range' 0 n).zip vs := by simpa using hparts
      unfold Instr.buildSlice
      rw [hl]
      by_cases h0 : n * i'.size = 0
      · have hf := hfill #[]
        simp [hu, underlying, h3, h0, go_sem] at hf ⊢
        simp [hf, run_newRow]
      · have hf := hfill z.cells
        simp [hu, underlying, h3, h0, hzv, go_sem]
        rw [if_neg (by omega)]
        refine (congrArg (fun (r : Option (Array Value)) => Sem.run P (match r with
          | some cells => Functor.map (fun a => Value.slice (some { block := a, off := 0 }) n n) (newObj (Obj.cells cells e))
          | x => stuck "buildSlice: a part of the wrong size") w) hf).trans ?_
        rfl
    have he : execOp ρ ⟨dst, .buildSlice t n parts.toArray, ty, pos, aft, gd⟩ = (do pure (.value (← Instr.buildSlice t n (parts.toArray.map fun (p : Nat × Operand) => (p.1, ρ p.2))))) := rfl
    rw [he, Sem.run_bind, hb]
    rfl
  · rw [hp_push]
    refine Sat.mono (Hp.le_refl _) ?_
    have := Sat.new (b := w.heap.size) (o := .cells (E.all xs).toArray e) (hp_size w) hs
    refine this.cons_imp (fun h hh => ?_) (fun _ h => h)
    rw [blk_iff] at hh
    refine sl_iff.2 (.inr ⟨w.heap.size, [], rfl, by omega, by unfold maxLen; omega, by simp [hlx], ?_⟩)
    simpa [hT] using hh
end
end Go.KK
