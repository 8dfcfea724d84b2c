/-
  A part of the proof of the claim that this folder bears.
  This text: K6.
-/
import Derived.Test.YtekgkamjbnfgiaaK5
import Derived.Laws.Cover3
import Derived.Laws.OwnMore
import Derived.Laws.Pointers
set_option linter.unusedVariables false
set_option linter.unusedSimpArgs false
namespace Go.KK

/-- How an element lies in cells. -/
structure Enc (α : Type) where
  T : TypeId
  m : Nat
  enc : α → List Value
  len : ∀ x, (enc x).length = m
  one : ∀ x v, v ∈ enc x → v.oneCell' = true

def Enc.all {α : Type} (E : Enc α) (xs : List α) : List Value := xs.flatMap E.enc
theorem Enc.all_len {α : Type} (E : Enc α) (xs : List α) : (E.all xs).length = xs.length * E.m := by
  unfold Enc.all
  induction xs with
  | nil => simp
  | cons x xs ih => simp [List.flatMap_cons, ih, E.len, Nat.add_mul, Nat.add_comm]
theorem Enc.all_append {α : Type} (E : Enc α) (xs ys : List α) : E.all (xs ++ ys) = E.all xs ++ E.all ys := by simp [Enc.all]
theorem Enc.all_get {α : Type} (E : Enc α) : ∀ (xs : List α) (i k : Nat) (x : α), xs[i]? = some x → k < E.m → (E.all xs)[i * E.m + k]? = (E.enc x)[k]?
  | [], i, k, x, h, _ => by simp at h
  | y :: ys, 0, k, x, h, hk => by
    simp at h; subst h
    simp only [Enc.all, List.flatMap_cons, Nat.zero_mul, Nat.zero_add]
    rw [List.getElem?_append_left (by rw [E.len]; exact hk)]
  | y :: ys, i + 1, k, x, h, hk => by
    simp only [List.getElem?_cons_succ] at h
    have ih := E.all_get ys i k x h hk
    have e : E.all (y :: ys) = E.enc y ++ E.all ys := by simp [Enc.all]
    rw [e, List.getElem?_append_right (by rw [E.len, Nat.add_mul]; omega), E.len]
    have : (i + 1) * E.m + k - E.m = i * E.m + k := by rw [Nat.add_mul]; omega
    rw [this]; exact ih
theorem Enc.all_one {α : Type} (E : Enc α) (xs : List α) : ∀ v ∈ E.all xs, v.oneCell' = true := by
  intro v hv
  simp only [Enc.all, List.mem_flatMap] at hv
  obtain ⟨x, _, h⟩ := hv
  exact E.one x v h

/-- What a slice reads as. -/
def slR {α : Type} (E : Enc α) (h : Hp) (a : Option Addr) (xs : List α) : Prop :=
  xs = [] ∨ ∃ b off C T fz, a = some ⟨b, off, none⟩ ∧ h b = some (.cells C T fz) ∧ ∀ j v, (E.all xs)[j]? = some v → C[off + j]? = some v

/-- A slice over an array of its own. -/
@[irreducible] def sl {α : Type} (E : Enc α) (a : Option Addr) (cap : Nat) (xs : List α) : Asn := fun h =>
  (a = none ∧ cap = 0 ∧ xs = []) ∨ ∃ b spare, a = some ⟨b, 0, none⟩ ∧ xs.length ≤ cap ∧ cap ≤ maxLen ∧ spare.length = (cap - xs.length) * E.m ∧ h b = some (.cells (E.all xs ++ spare).toArray E.T (0, 0))

theorem sl_iff {α : Type} {E : Enc α} {a : Option Addr} {cap : Nat} {xs : List α} {h : Hp} : sl E a cap xs h ↔
    ((a = none ∧ cap = 0 ∧ xs = []) ∨ ∃ b spare, a = some ⟨b, 0, none⟩ ∧ xs.length ≤ cap ∧ cap ≤ maxLen ∧ spare.length = (cap - xs.length) * E.m ∧ h b = some (.cells (E.all xs ++ spare).toArray E.T (0, 0))) := by
  unfold sl; exact Iff.rfl

class SlIn {α : outParam Type} (E : outParam (Enc α)) (L : List Asn) (a : Option Addr) (xs : outParam (List α)) : Prop where
  out : ∀ h, Sat h L → slR E h a xs

theorem slR.mono {α : Type} {E : Enc α} {h h' : Hp} {a : Option Addr} {xs : List α} (hl : Hp.le h h') (hs : slR E h a xs) : slR E h' a xs := by
  rcases hs with h0 | ⟨b, off, C, T, fz, ha, hb, hc⟩
  · exact .inl h0
  · exact .inr ⟨b, off, C, T, fz, ha, hl _ _ hb, hc⟩
theorem sl.slR {α : Type} {E : Enc α} {a : Option Addr} {cap : Nat} {xs : List α} {h : Hp} (hs : sl E a cap xs h) : slR E h a xs := by
  rcases sl_iff.1 hs with ⟨_, _, h0⟩ | ⟨b, spare, ha, h1, h2, h3, hb⟩
  · exact .inl h0
  · refine .inr ⟨b, 0, _, _, _, ha, hb, fun j v hj => ?_⟩
    have hlt := (List.getElem?_eq_some_iff.1 hj).1
    simp only [Nat.zero_add, List.getElem?_toArray]
    rw [List.getElem?_append_left hlt, hj]

instance SlIn.head {α : Type} {E : Enc α} {L : List Asn} {a : Option Addr} {cap : Nat} {xs : List α} : SlIn E (sl E a cap xs :: L) a xs := ⟨fun h hs => by
  obtain ⟨h1, l, s⟩ := hs.head
  exact (sl.slR s).mono l⟩
instance (priority := 900) SlIn.tail {α : Type} {E : Enc α} {A : Asn} {L : List Asn} {a : Option Addr} {xs : List α} [hh : SlIn E L a xs] : SlIn E (A :: L) a xs := ⟨fun h hs => hh.out h hs.tail⟩
theorem SlIn.mem {α : Type} {E : Enc α} {A : Asn} {L : List Asn} {a : Option Addr} {xs : List α} (hA : ∀ h, A h → KK.slR E h a xs) (hm : A ∈ L) : SlIn E L a xs := ⟨fun h hs => by
  obtain ⟨h1, l, s⟩ := Sat.mem hm hs
  exact (hA _ s).mono l⟩
theorem SlIn.some {α : Type} {E : Enc α} {L : List Asn} {a : Option Addr} {xs : List α} (hh : SlIn E L a xs) (hx : 0 < xs.length) : ∀ h, Sat h L → ∃ b o, a = Option.some ⟨b, o, none⟩ := fun h hs => by
  rcases hh.out h hs with h0 | ⟨b, off, C, T, fz, ha, _⟩
  · subst h0; simp at hx
  · exact ⟨b, off, ha⟩

theorem CellIn.el {α : Type} {E : Enc α} {L : List Asn} {a : Option Addr} {xs : List α} {m i k : Nat} {x : α} {v : Value} [hh : SlIn E L a xs] (hm : E.m = m) (hx : xs[i]? = some x) (hv : (E.enc x)[k]? = some v) :
    CellIn L ⟨(KK.el a m i).block, (KK.el a m i).off + k, none⟩ v := fun h hs => by
  subst hm
  rcases hh.out h hs with h0 | ⟨b, off, C, T, fz, ha, hb, hc⟩
  · subst h0; simp at hx
  · subst ha
    have hk : k < E.m := by rw [← E.len x]; exact (List.getElem?_eq_some_iff.1 hv).1
    have := hc (i * E.m + k) v (by rw [E.all_get xs i k x hx hk, hv])
    simp [cellH, KK.el, hb, Nat.add_assoc, this]
theorem CellIn.el0 {α : Type} {E : Enc α} {L : List Asn} {a : Option Addr} {xs : List α} {m i : Nat} {x : α} {v : Value} [hh : SlIn E L a xs] (hm : E.m = m) (hx : xs[i]? = some x) (hv : (E.enc x)[0]? = some v) :
    CellIn L (KK.el a m i) v := fun h hs => by
  have := CellIn.el (L := L) (a := a) hm hx hv h hs
  exact this
theorem CellsIn.el {α : Type} {E : Enc α} {L : List Asn} {a : Option Addr} {xs : List α} {m i : Nat} {x : α} [hh : SlIn E L a xs] (hm : E.m = m) (hx : xs[i]? = some x) :
    CellsIn L (KK.el a m i) (E.enc x) := fun h hs j v hv => CellIn.el (L := L) (a := a) hm hx hv h hs
theorem CellsIn.blk {L : List Asn} {b : Nat} {cs : List Value} {T : TypeId} {fz : Nat × Nat} [hb : BlkIn L b (.cells cs.toArray T fz)] : CellsIn L ⟨b, 0, none⟩ cs := fun h hh j v hv => by
  have := hb.out h hh
  simp [cellH, this, hv]

section
variable {P : Program} {F : Fr} {L : List Asn} {dst : Option Tmp} {ty : TypeId} {pos : String} {aft : Array Edge} {gd : Option (Nat × Bool)}

theorem Pur.idx {α : Type} {E : Enc α} {t e m by_ : Nat} {z : Value} [ha : SlT P t e m by_ z] {x ix : Operand} {a : Option Addr} {n cap : Nat} {kd : IntKind} {i : Int} {k : Nat} {xs : List α} (hx : ev F x = some (.slice a n cap)) (hi : ev F ix = some (.int kd i))
    [hs : SlIn E L a xs] (hm : E.m = m) (hn : n = xs.length) (hik : i = (k : Int)) (hk : k < xs.length) :
    Pur P F L ⟨dst, .indexAddr t x ix, ty, pos, aft, gd⟩ (.pointer (some (el a m k))) := by
  subst hm; subst hik; subst hn
  have := Pur.indexAddr (P := P) (F := F) (L := L) (dst := dst) (ty := ty) (pos := pos) (aft := aft) (gd := gd) (t := t) (x := x) (ix := ix) hx hi (by omega) (by omega) (SlIn.some hs (by omega))
  simpa using this

theorem Pur.len {t e m by_ : Nat} {z : Value} [ha : SlT P t e m by_ z] {x : Operand} {a : Option Addr} {n cap : Nat} (hx : ev F x = some (.slice a n cap)) :
    Pur P F L ⟨dst, .call ⟨.builtin .len, #[x], #[t]⟩, ty, pos, aft, gd⟩ (.int .i64 n) := fun ρ w hρ _ => by
  obtain ⟨i', hu, _⟩ := sltB_spec ha.out
  simp [execOp, resolve, invoke, builtin, Builtin.len_, hρ _ _ hx, hu, underlying, goInt, go_sem]

theorem Pur.slice {t e m by_ : Nat} {z : Value} [ha : SlT P t e m by_ z] {x : Operand} {lo hi : Option Operand} {a : Option Addr} {n cap l h : Nat}
    (hx : ev F x = some (.slice a n cap)) (hlo : (lo = none ∧ l = 0) ∨ ∃ y kd, lo = some y ∧ ev F y = some (.int kd l)) (hhi : (hi = none ∧ h = n) ∨ ∃ y kd, hi = some y ∧ ev F y = some (.int kd h))
    (h1 : l ≤ h) (h2 : h ≤ cap) :
    Pur P F L ⟨dst, .slice t x lo hi none, ty, pos, aft, gd⟩ (.slice (if cap = l then a else a.map (·.add (l * m))) (h - l) (cap - l)) := fun ρ w hρ _ => by
  obtain ⟨i', hu, hi', hz', rfl, rfl, _⟩ := sltB_spec ha.out
  have h3 : (sizeOf e).run P w = .ok i'.size w := run_sizeOf_of (by simp [hi'])
  have hb1 : ∀ y kd, ev F y = some (.int kd h) → (Instr.sliceBound (ρ y) cap .sliceAcap).run P w = .ok h w := fun y kd hy => by
    have : (h : Int) ≤ cap := by omega
    simp [Instr.sliceBound, hρ _ _ hy, asIntOf, this, go_sem]
  have hb2 : ∀ y kd, ev F y = some (.int kd l) → (Instr.sliceBound (ρ y) h .sliceB).run P w = .ok l w := fun y kd hy => by
    have : (l : Int) ≤ h := by omega
    simp [Instr.sliceBound, hρ _ _ hy, asIntOf, this, go_sem]
  rcases hlo with ⟨rfl, rfl⟩ | ⟨y, kd, rfl, hy⟩ <;> rcases hhi with ⟨rfl, rfl⟩ | ⟨y', kd', rfl, hy'⟩
  · simp [execOp, Instr.sliceAt, Instr.slice, Instr.sliceBounds, hρ _ _ hx, hu, underlying, h3, go_sem]
  · simp [execOp, Instr.sliceAt, Instr.slice, Instr.sliceBounds, hρ _ _ hx, hu, underlying, h3, hb1 _ _ hy', go_sem]
  · simp [execOp, Instr.sliceAt, Instr.slice, Instr.sliceBounds, hρ _ _ hx, hu, underlying, h3, hb2 _ _ hy, go_sem]
  · simp [execOp, Instr.sliceAt, Instr.slice, Instr.sliceBounds, hρ _ _ hx, hu, underlying, h3, hb1 _ _ hy', hb2 _ _ hy, go_sem]

theorem Pur.eqlSlNil {t t' e m by_ : Nat} {z : Value} [ha : SlT P t e m by_ z] {x : Operand} {a : Option Addr} {n cap : Nat} (hx : ev F x = some (.slice a n cap)) :
    Pur P F L ⟨dst, .binOp .eql t x (.const (.slice none 0 0)) t', ty, pos, aft, gd⟩ (.bool a.isNone) := fun ρ w hρ _ => by
  obtain ⟨i', hu, _⟩ := sltB_spec ha.out
  have hc : ρ (.const (.slice none 0 0)) = .slice none 0 0 := hρ _ _ rfl
  have h5 := run_equal_slice_nil (P := P) w t e a n cap hu
  simp [execOp, hρ _ _ hx, hc, eqGuard, binOp, h5, go_sem]
class PtT (P : Program) (t : TypeId) : Prop where out : P.underlying t = some (.pointer (P.pointee t))
theorem Pur.eqlPtrNil {t t' : Nat} [ha : PtT P t] {x : Operand} {p : Option Addr} (hx : ev F x = some (.pointer p)) :
    Pur P F L ⟨dst, .binOp .eql t x (.const (.pointer none)) t', ty, pos, aft, gd⟩ (.bool p.isNone) := fun ρ w hρ _ => by
  have hc : ρ (.const (.pointer none)) = .pointer none := hρ _ _ rfl
  have h5 := run_equal_pointer_nil (P := P) w t p ha.out
  simp [execOp, hρ _ _ hx, hc, eqGuard, binOp, h5, go_sem]
theorem Pur.neqPtrNil {t t' : Nat} [ha : PtT P t] {x : Operand} {p : Option Addr} (hx : ev F x = some (.pointer p)) :
    Pur P F L ⟨dst, .binOp .neq t x (.const (.pointer none)) t', ty, pos, aft, gd⟩ (.bool p.isSome) := fun ρ w hρ _ => by
  have hc : ρ (.const (.pointer none)) = .pointer none := hρ _ _ rfl
  have h5 := run_equal_pointer_nil (P := P) w t p ha.out
  cases p <;> simp [execOp, hρ _ _ hx, hc, eqGuard, binOp, h5, go_sem]
theorem Pur.neqSlNil {t t' e m by_ : Nat} {z : Value} [ha : SlT P t e m by_ z] {x : Operand} {a : Option Addr} {n cap : Nat} (hx : ev F x = some (.slice a n cap)) :
    Pur P F L ⟨dst, .binOp .neq t x (.const (.slice none 0 0)) t', ty, pos, aft, gd⟩ (.bool a.isSome) := fun ρ w hρ _ => by
  obtain ⟨i', hu, _⟩ := sltB_spec ha.out
  have hc : ρ (.const (.slice none 0 0)) = .slice none 0 0 := hρ _ _ rfl
  have h5 := run_equal_slice_nil (P := P) w t e a n cap hu
  cases a <;> simp [execOp, hρ _ _ hx, hc, eqGuard, binOp, h5, go_sem]
class BoT (P : Program) (t : TypeId) : Prop where out : P.underlying t = some .bool
theorem Pur.eqlB {t t' : Nat} [ha : BoT P t] {x y : Operand} {a b : Bool} (hx : ev F x = some (.bool a)) (hy : ev F y = some (.bool b)) :
    Pur P F L ⟨dst, .binOp .eql t x y t', ty, pos, aft, gd⟩ (.bool (a == b)) := fun ρ w hρ _ => by
  have h5 := run_equal_bool (P := P) w t a b ha.out
  simp [execOp, hρ _ _ hx, hρ _ _ hy, eqGuard, binOp, h5, go_sem]
theorem Pur.neqB {t t' : Nat} [ha : BoT P t] {x y : Operand} {a b : Bool} (hx : ev F x = some (.bool a)) (hy : ev F y = some (.bool b)) :
    Pur P F L ⟨dst, .binOp .neq t x y t', ty, pos, aft, gd⟩ (.bool (a != b)) := fun ρ w hρ _ => by
  have h5 := run_equal_bool (P := P) w t a b ha.out
  cases a <;> cases b <;> simp [execOp, hρ _ _ hx, hρ _ _ hy, eqGuard, binOp, h5, go_sem]
end

/-! Pieces of a list of assertions, turned in place. -/
inductive Rep (A B : Asn) : List Asn → List Asn → Prop
  | head {L : List Asn} : Rep A B (A :: L) (B :: L)
  | tail {C : Asn} {L L' : List Asn} : Rep A B L L' → Rep A B (C :: L) (C :: L')

theorem Rep.perm {A B : Asn} {L L' : List Asn} (h : Rep A B L L') : ∃ R, L.Perm (A :: R) ∧ L'.Perm (B :: R) := by
  induction h with
  | head => exact ⟨_, .refl _, .refl _⟩
  | @tail C L L' _ ih =>
    obtain ⟨R, h1, h2⟩ := ih
    exact ⟨C :: R, (h1.cons C).trans (.swap _ _ _), (h2.cons C).trans (.swap _ _ _)⟩

/-- The law behind each effect: outside what A owns nothing that was there turns, and what B owns is what A owned, or new. -/
theorem Sat.frame {A B : Asn} {L : List Asn} {h h' : Hp} (hs : Sat h (A :: L))
    (hf : ∀ h1, A h1 → Hp.le h1 h → ∃ h1', B h1' ∧ Hp.le h1' h' ∧ (∀ b, h1' b ≠ none → h1 b ≠ none ∨ h b = none) ∧ (∀ b o, h b = some o → h1 b = none → h' b = some o)) : Sat h' (B :: L) := by
  obtain ⟨h1, h2, d, l1, l2, a, s⟩ := hs
  obtain ⟨h1', hb, hl, hd, hk⟩ := hf h1 a l1
  refine ⟨h1', h2, ?_, hl, ?_, hb, s⟩
  · intro b
    cases hb' : h1' b with
    | none => exact .inl rfl
    | some o =>
      right
      rcases hd b (by simp [hb']) with h' | h'
      · rcases d b with h'' | h''
        · exact absurd h'' h'
        · exact h''
      · cases h2b : h2 b with
        | none => rfl
        | some o' => have := l2 _ _ h2b; rw [h'] at this; cases this
  · intro b o hb'
    refine hk b o (l2 _ _ hb') ?_
    rcases d b with h'' | h''
    · exact h''
    · rw [h''] at hb'; cases hb'

theorem Sat.frameRep {A B : Asn} {L L' : List Asn} {h h' : Hp} (hr : Rep A B L L') (hs : Sat h L)
    (hf : ∀ h1, A h1 → Hp.le h1 h → ∃ h1', B h1' ∧ Hp.le h1' h' ∧ (∀ b, h1' b ≠ none → h1 b ≠ none ∨ h b = none) ∧ (∀ b o, h b = some o → h1 b = none → h' b = some o)) : Sat h' L' := by
  obtain ⟨R, p1, p2⟩ := hr.perm
  exact (Sat.frame (hs.perm p1) hf).perm p2.symm
theorem Sat.memRep {A B : Asn} {L L' : List Asn} {h : Hp} (hr : Rep A B L L') (hs : Sat h L) : ∃ h1, Hp.le h1 h ∧ A h1 := by
  obtain ⟨R, p1, p2⟩ := hr.perm
  exact (hs.perm p1).head

theorem hp_setCell (w : World) (b o : Nat) (v : Value) (C : Array Value) (T : TypeId) (fz : Nat × Nat) (h : hp w b = some (.cells C T fz)) :
    hp (w.setCell ⟨b, o, none⟩ v) = Hp.upd (hp w) b (.cells (C.setIfInBounds o v) T fz) := by
  funext x
  unfold hp at h
  unfold hp World.setCell Hp.upd
  simp only [Array.getElem?_modify]
  by_cases e : b = x
  · subst e; simp [h]
  · have e' : ¬ x = b := fun h => e h.symm
    simp [e, e']

theorem run_storeCell (P : Program) (w : World) (b o : Nat) (v : Value) (C : Array Value) (T : TypeId) (h : hp w b = some (.cells C T (0, 0))) (ho : o < C.size) (h1 : v.oneCell' = true) :
    (store ⟨b, o, none⟩ v).run P w = .ok () (w.setCell ⟨b, o, none⟩ v) := by
  unfold hp at h
  have hcell : w.cell? ⟨b, o, none⟩ = some C[o] := by simp [World.cell?, h, ho]
  have hfro : w.frozen? ⟨b, o, none⟩ = false := by simp [World.frozen?, h]
  rw [run_store P w _ v _ h1, hcell]
  simp [hfro]

theorem cells_one {v : Value} (h : v.oneCell' = true) : v.cells = #[v] := by cases v <;> simp [Value.oneCell'] at h <;> rfl

theorem cells_agg (cs : Array Value) : (Value.agg cs).cells = cs := rfl

section
variable {P : Program} {F : Fr} {L : List Asn} {dst : Option Tmp} {ty : TypeId} {pos : String} {aft : Array Edge} {gd : Option (Nat × Bool)}

class One (P : Program) (t : TypeId) : Prop where out : (P.info? t).map (·.size) = some 1

theorem run_storeOp {t : Nat} [h1 : One P t] {x y : Operand} {p : Addr} {v : Value} {ρ : Operand → Value} {w : World} {C : Array Value} {T : TypeId} (hρ : ∀ x u, ev F x = some u → ρ x = u)
    (hx : ev F x = some (.pointer (some p))) (hy : ev F y = some v) (hv : v.oneCell' = true) (hp : p.spot = none) (hb : KK.hp w p.block = some (.cells C T (0, 0))) (ho : p.off < C.size) :
    (execOp ρ ⟨dst, .store t x y, ty, pos, aft, gd⟩).run P w = .ok .skip (w.setCell p v) := by
  have hs : (sizeOf t).run P w = .ok 1 w := run_sizeOf_of h1.out
  have hst := run_storeCell P w p.block p.off v C T hb ho hv
  have he : p.add 0 = p := by unfold Addr.add; simp
  have he2 : (⟨p.block, p.off, none⟩ : Addr) = p := by cases p; simp at hp; subst hp; rfl
  rw [he2] at hst
  have hy' := hρ _ _ hy
  have hx' := hρ _ _ hx
  clear hy hx hρ
  simp [execOp, Instr.storeAt, Instr.sureAddr, storeVar, hx', hy', cells_one hv, hs, storeCells, he, hst]

inductive SetAt {α : Type} (v : α) : List α → Nat → List α → Prop
  | head {x : α} {l : List α} : SetAt v (x :: l) 0 (v :: l)
  | tail {x : α} {l l' : List α} {k : Nat} : SetAt v l k l' → SetAt v (x :: l) (k + 1) (x :: l')
theorem SetAt.eq {α : Type} {v : α} {l l' : List α} {k : Nat} (h : SetAt v l k l') : l' = l.set k v ∧ k < l.length := by
  induction h with
  | head => simp
  | tail _ ih => simp [ih.1, ih.2]

theorem Eff.store {t : Nat} [h1 : One P t] {x y : Operand} {p : Addr} {v : Value} {cs cs' : List Value} {T : TypeId} {k : Nat} {L' : List Asn}
    (hx : ev F x = some (.pointer (some p))) (hy : ev F y = some v) (hv : v.oneCell' = true) (hp : p.spot = none) (hk : p.off = k) (hset : SetAt v cs k cs')
    (hr : Rep (blk p.block (.cells cs.toArray T (0, 0))) (blk p.block (.cells cs'.toArray T (0, 0))) L L') :
    Eff P F L ⟨dst, .store t x y, ty, pos, aft, gd⟩ (fun u M => u = undef ∧ M = L') := Eff.of_skip fun ρ w hρ hs => by
  obtain ⟨R, p1, p2⟩ := hr.perm
  have hs1 := hs.perm p1
  have hb : KK.hp w p.block = some (.cells cs.toArray T (0, 0)) := BlkIn.head.out _ hs1
  obtain ⟨e1, e2⟩ := hset.eq
  refine ⟨_, L', run_storeOp hρ hx hy hv hp hb (by rw [hk]; simpa using e2), ⟨rfl, rfl⟩, rfl, ?_⟩
  have he : p = ⟨p.block, p.off, none⟩ := by cases p; simp at hp; subst hp; rfl
  rw [he, hp_setCell _ _ _ _ _ _ _ hb]
  refine Sat.perm p2.symm ?_
  have := hs1.upd (o' := .cells cs'.toArray T (0, 0))
  simpa [e1, hk] using this

theorem Enc.all_set {α : Type} (E : Enc α) : ∀ (xs : List α) (i k : Nat) (x x' : α) (v : Value), xs[i]? = some x → k < E.m → E.enc x' = (E.enc x).set k v → (E.all xs).set (i * E.m + k) v = E.all (xs.set i x')
  | [], i, k, x, x', v, h, _, _ => by simp at h
  | y :: ys, 0, k, x, x', v, h, hk, he => by
    simp at h; subst h
    simp only [Enc.all, List.flatMap_cons, Nat.zero_mul, Nat.zero_add, List.set_cons_zero]
    rw [List.set_append_left _ _ (by rw [E.len]; exact hk), he]
  | y :: ys, i + 1, k, x, x', v, h, hk, he => by
    simp only [List.getElem?_cons_succ] at h
    have ih := E.all_set ys i k x x' v h hk he
    have e : ∀ zs, E.all (y :: zs) = E.enc y ++ E.all zs := fun zs => by simp [Enc.all]
    rw [List.set_cons_succ, e, e, List.set_append_right _ _ (by rw [E.len, Nat.add_mul]; omega), E.len]
    have : (i + 1) * E.m + k - E.m = i * E.m + k := by rw [Nat.add_mul]; omega
    rw [this, ih]

theorem Eff.storeEl {α : Type} {E : Enc α} {t : Nat} [h1 : One P t] {x y : Operand} {p : Addr} {v : Value} {a : Option Addr} {cap i k : Nat} {xs : List α} {z z' : α} {L' : List Asn}
    (hx : ev F x = some (.pointer (some p))) (hy : ev F y = some v) (hv : v.oneCell' = true) (hp : p = ⟨(el a E.m i).block, (el a E.m i).off + k, none⟩)
    (hz : xs[i]? = some z) (hset : SetAt v (E.enc z) k (E.enc z'))
    (hr : Rep (sl E a cap xs) (sl E a cap (xs.set i z')) L L') :
    Eff P F L ⟨dst, .store t x y, ty, pos, aft, gd⟩ (fun u M => u = undef ∧ M = L') := Eff.of_skip fun ρ w hρ hs => by
  obtain ⟨h0, l0, a0⟩ := Sat.memRep hr hs
  obtain ⟨e1, e2⟩ := hset.eq
  have hkm : k < E.m := by rw [← E.len z]; exact e2
  have hi : i < xs.length := (List.getElem?_eq_some_iff.1 hz).1
  rcases sl_iff.1 a0 with ⟨_, _, hn⟩ | ⟨b, spare, ha, q1, q2, q3, hb⟩
  · subst hn; simp at hz
  subst ha
  have hpe : p = ⟨b, i * E.m + k, none⟩ := by simpa [el] using hp
  have hbw : KK.hp w b = some (.cells (E.all xs ++ spare).toArray E.T (0, 0)) := l0 _ _ hb
  have hlt : i * E.m + k < (E.all xs).length := by
    rw [E.all_len]
    calc i * E.m + k < i * E.m + E.m := by omega
      _ = (i + 1) * E.m := by rw [Nat.add_mul]; omega
      _ ≤ xs.length * E.m := Nat.mul_le_mul_right _ hi
  subst hpe
  refine ⟨_, L', run_storeOp hρ hx hy hv rfl hbw (by simp; omega), ⟨rfl, rfl⟩, rfl, ?_⟩
  rw [hp_setCell _ _ _ _ _ _ _ hbw]
  refine Sat.frameRep hr hs fun h1 hA hl1 => ?_
  rcases sl_iff.1 hA with ⟨hno, _, _⟩ | ⟨b', spare', ha', r1, r2, r3, hb'⟩
  · cases hno
  simp only [Option.some.injEq, Addr.mk.injEq, true_and, and_true] at ha'
  subst ha'
  have hsp : spare' = spare := by
    have h2 := hl1 _ _ hb'
    rw [hbw] at h2
    simpa using h2.symm
  subst hsp
  refine ⟨Hp.upd h1 b (.cells (E.all (xs.set i z') ++ spare').toArray E.T (0, 0)), ?_, ?_, ?_, ?_⟩
  · refine sl_iff.2 (.inr ⟨b, spare', rfl, by simpa using r1, r2, by simpa using r3, by simp [Hp.upd]⟩)
  · intro x o hxo
    unfold Hp.upd at *
    by_cases e : x = b
    · subst e
      simp only [if_true, List.setIfInBounds_toArray] at hxo ⊢
      rw [← hxo, List.set_append_left _ _ hlt, E.all_set xs i k z z' v hz hkm e1]
    · simp only [e, if_false] at *; exact hl1 _ _ hxo
  · intro x hx'
    unfold Hp.upd at hx'
    by_cases e : x = b
    · left; rw [e, hb']; simp
    · left; simpa [e] using hx'
  · intro x o hxo hno
    unfold Hp.upd
    by_cases e : x = b
    · rw [e, hb'] at hno; cases hno
    · simpa [e] using hxo
end
end Go.KK
