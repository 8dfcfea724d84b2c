/-
  A part of the proof of the claim that this folder bears.
  This text: K17.
-/
import Derived.Test.YtekgkamjbnfgiaaK16
import Derived.ProofKit
import Derived.Deep.Slices
import Derived.Deep.Fields
import Derived.ChangeSame
set_option linter.unusedVariables false
set_option linter.unusedSimpArgs false
namespace Go.KK
open Go.ChangeShapes Go.WideShapes Go.ChangeAt Go.RowKit

/-- The heap that the call met is there still. -/
@[irreducible] def inp (h0 : Hp) : Asn := fun h => Hp.le h0 h
theorem inp_iff {h0 h : Hp} : inp h0 h ↔ Hp.le h0 h := by unfold inp; exact Iff.rfl
class Inp {α : outParam Type} (E : outParam (Enc α)) (h0 : Hp) (a : Option Addr) (xs : outParam (List α)) : Prop where
  out : slR E h0 a xs
instance Inp.slIn {α : Type} {E : Enc α} {h0 : Hp} {L : List Asn} {a : Option Addr} {xs : List α} [hh : Inp E h0 a xs] : SlIn E (inp h0 :: L) a xs := ⟨fun h hs => by
  obtain ⟨h1, l, s⟩ := hs.head
  exact hh.out.mono (Hp.le_trans (inp_iff.1 s) l)⟩

theorem sat_inp (w : World) : Sat (hp w) [inp (hp w)] := ⟨hp w, fun _ => none, fun _ => .inr rfl, Hp.le_refl _, (fun _ _ h => by cases h), inp_iff.2 (Hp.le_refl _), trivial⟩

/-- What the call leaves: below the heap's old size nothing has turned. -/
theorem below_of {W W' : World} (hs : Sat (hp W') [inp (hp W)]) (he : env W' = env W) : Below W.heap.size W W' := by
  obtain ⟨h1, l, s⟩ := hs.head
  have hl : Hp.le (hp W) (hp W') := Hp.le_trans (inp_iff.1 s) l
  unfold env at he
  simp only [Prod.mk.injEq] at he
  have hb : ∀ k, k < W.heap.size → W'.heap[k]? = W.heap[k]? := fun k hk => by
    have h2 : W.heap[k]? = some W.heap[k] := Array.getElem?_eq_getElem hk
    rw [h2]; exact hl _ _ h2
  refine ⟨he.1, he.2.1, he.2.2, ?_, hb⟩
  by_cases h0 : W.heap.size = 0
  · omega
  · have := hb (W.heap.size - 1) (by omega)
    rw [Array.getElem?_eq_getElem (show W.heap.size - 1 < W.heap.size by omega)] at this
    have := (Array.getElem?_eq_some_iff.1 this).1
    omega

theorem CallS.run {P : Program} {f : FuncId} {args : Array Value} {W : World} {v0 : Value} (h : CallS P f args [inp (hp W)] (fun v M => v = v0 ∧ M = [inp (hp W)])) :
    Calls P f args W fun e W' => e = .returned v0 ∧ Below W.heap.size W W' :=
  (h W (sat_inp W)).mono fun e W' ⟨v, M, ⟨e1, e2⟩, he, hs, hv⟩ => ⟨by rw [he, e1], below_of (by rw [← e2]; exact hs) hv⟩

theorem Enc.all_at {α : Type} (E : Enc α) : ∀ (xs : List α) (j : Nat) (v : Value), (E.all xs)[j]? = some v → ∃ i k x, j = i * E.m + k ∧ k < E.m ∧ xs[i]? = some x ∧ (E.enc x)[k]? = some v
  | [], j, v, h => by simp [Enc.all] at h
  | y :: ys, j, v, h => by
    have e : E.all (y :: ys) = E.enc y ++ E.all ys := by simp [Enc.all]
    rw [e] at h
    by_cases hj : j < E.m
    · rw [List.getElem?_append_left (by rw [E.len]; exact hj)] at h
      exact ⟨0, j, y, by simp, hj, rfl, h⟩
    · rw [List.getElem?_append_right (by rw [E.len]; omega), E.len] at h
      obtain ⟨i, k, x, h1, h2, h3, h4⟩ := E.all_at ys _ v h
      exact ⟨i + 1, k, x, by rw [Nat.add_mul]; omega, h2, by simpa using h3, h4⟩

theorem slR_of {α : Type} {E : Enc α} {w : World} {a : Addr} {xs : List α} (hm : 0 < E.m)
    (hc : ∀ i x, xs[i]? = some x → ∀ k v, k < E.m → (E.enc x)[k]? = some v → w.cell? (a.add (i * E.m + k)) = some v) : slR E (hp w) (some a) xs := by
  match xs, hc with
  | [], _ => exact .inl rfl
  | y :: ys, hc =>
    have hl : 0 < (E.enc y).length := by rw [E.len]; exact hm
    have h0 := hc 0 y rfl 0 _ hm (List.getElem?_eq_getElem hl)
    have hz : a.add (0 * E.m + 0) = a := by unfold Addr.add; simp
    rw [hz, cell?_eq] at h0
    obtain ⟨b, off, spot⟩ := a
    unfold cellH at h0
    simp only at h0
    split at h0
    · rename_i C T fz hb
      split at h0
      · cases h0
      · rename_i hs
        have : spot = none := by cases spot <;> simp_all
        subst this
        refine .inr ⟨b, off, C, T, fz, rfl, hb, fun j v hj => ?_⟩
        obtain ⟨i, k, x, rfl, hk, hx, hv⟩ := E.all_at _ j v hj
        have := hc i x hx k v hk hv
        rw [cell?_eq] at this
        have e : (⟨b, off, none⟩ : Addr).add (i * E.m + k) = ⟨b, off + (i * E.m + k), none⟩ := by unfold Addr.add; split <;> simp_all
        rw [e] at this
        simpa [cellH, hb] using this
    · cases h0

section
open Go.Deep
variable {H : Type} {enc : TypeId × Value → H} {P : Program} {w : World} {base : Nat} {spare : Nat → Bool} {held : Bool}
theorem open_slice_fields {t e : TypeId} {fs : Array Field} {fuel : Nat} {cs : List Value} {x : DataW H × List MemPlace} (ht : P.underlying t = some (.slice e)) (he : P.underlying e = some (.struct fs))
    (hone : oneCellFields P fs = true) (hC : P.cellsOf e = fs.size) (h : DataW.trod enc P w base spare held fuel t cs = some x) :
    (cs = [.slice none 0 0]) ∨
    ∃ (a : Addr) (len cap : Nat), cs = [.slice (some a) len cap] ∧ len ≤ cap ∧ cap ≤ maxLen ∧
      ∀ i, i < len → ∃ (n : Nat), ∀ (j : Nat) (f : Field), fs[j]? = some f → ∃ (v : Value) (y : DataW H × List MemPlace), w.cell? (a.add (i * fs.size + j)) = some v ∧ DataW.trod enc P w base spare held n f.type [v] = some y := by
  rcases open_slice ht h with h0 | ⟨a, len, cap, m, n, D, Pl, hcs, hb, hl, hm, hmm, hx, hi⟩
  · exact .inl h0.1
  · refine .inr ⟨a, len, cap, hcs, hl, hm, fun i him => ?_⟩
    have him' : i < m := by rw [hmm]; split <;> omega
    obtain ⟨cs', hc, ht'⟩ := hi i him'
    rw [hC] at hc
    obtain ⟨ys, n', hn', hy, hlen, hyl, hf⟩ := DataW.trod_struct he ht'
    obtain ⟨_, hcl, hat⟩ := World.cells?_some hc
    refine ⟨n', fun j f hj => ?_⟩
    obtain ⟨ho, hk⟩ := hone_of hone j f hj
    have hjl : j < fs.size := (Array.getElem?_eq_some_iff.1 hj).1
    have hcell := hat j hjl
    have hv : cs'[j]? = some (cs'[j]'(by omega)) := List.getElem?_eq_getElem (by omega)
    have h1 := hf j f hj
    rw [ho, hk] at h1
    have hone' : (cs'.drop j).take 1 = [cs'[j]'(by omega)] := by
      rw [List.drop_eq_getElem_cons (by omega)]
      rfl
    rw [hone'] at h1
    have hys : ys[j]? = some (ys[j]'(by omega)) := List.getElem?_eq_getElem (by omega)
    refine ⟨_, _, ?_, h1.trans hys⟩
    rw [← Go.Deep.add_add, hcell, hv]

/-- A slice argument of structs whose fields are ints, as a list. -/
theorem open_acts {α : Type} [Inhabited α] (E : Enc α) {t e : TypeId} {fs : Array Field} {v : Value} {d : DataW H} {ps : List MemPlace} (ht : P.underlying t = some (.slice e)) (he : P.underlying e = some (.struct fs))
    (hone : oneCellFields P fs = true) (hC : P.cellsOf e = fs.size) (hm : E.m = fs.size) (hpos : 0 < fs.size) {ti : Nat} (hall : (fs.toList.all fun f => Nat.beq f.type ti) = true) (hti : P.underlying ti = some (.int .i64))
    (hmk : ∀ g : Nat → Int, ∃ x : α, ∀ k u, k < fs.size → (E.enc x)[k]? = some u → u = .int .i64 (g k))
    (hv : ∃ a len cap, v = .slice a len cap) (h : DataW.Trod enc P w base spare held t v d ps) : ∃ (a : Option Addr) (xs : List α) (cap : Nat), v = .slice a xs.length cap ∧ xs.length ≤ maxLen ∧ (a = none → xs = [] ∧ cap = 0) ∧ slR E (hp w) a xs := by
  have hint : ∀ (j : Nat) (f : Field), fs[j]? = some f → P.underlying f.type = some (.int .i64) := fun j f hj => by
    have hm : f ∈ fs.toList := by
      obtain ⟨hlt, rfl⟩ := Array.getElem?_eq_some_iff.1 hj
      simp
    rw [Nat.eq_of_beq_eq_true (List.all_eq_true.1 hall f hm)]
    exact hti
  obtain ⟨fuel, hf⟩ := h
  obtain ⟨a0, len0, cap0, rfl⟩ := hv
  rcases open_slice_fields ht he hone hC hf with h0 | ⟨a, len, cap, h0, h1, h2, hi⟩
  · simp [Value.cells] at h0
    obtain ⟨rfl, rfl, rfl⟩ := h0
    exact ⟨none, [], 0, rfl, by unfold maxLen; simp, fun _ => ⟨rfl, rfl⟩, .inl rfl⟩
  · simp [Value.cells] at h0
    obtain ⟨rfl, rfl, rfl⟩ := h0
    have hex : ∀ i, i < len0 → ∃ x : α, ∀ k u, k < E.m → (E.enc x)[k]? = some u → w.cell? (a.add (i * E.m + k)) = some u := by
      intro i hil
      obtain ⟨n, hn⟩ := hi i hil
      have hg : ∀ k, k < fs.size → ∃ z : Int, w.cell? (a.add (i * fs.size + k)) = some (.int .i64 z) := by
        intro k hk
        obtain ⟨v, y, c1, c2⟩ := hn k fs[k] (Array.getElem?_eq_getElem hk)
        obtain ⟨z, e1, _, _⟩ := DataW.trod_int (hint k _ (Array.getElem?_eq_getElem hk)) c2
        simp only [List.cons.injEq, and_true] at e1
        exact ⟨z, by rw [c1, e1]⟩
      obtain ⟨g, hg⟩ := choose_lt hg
      obtain ⟨x, hx⟩ := hmk g
      refine ⟨x, fun k u hk hu => ?_⟩
      rw [hm] at hk ⊢
      rw [hx k u hk hu]
      exact hg k hk
    obtain ⟨F, hF⟩ := choose_lt hex
    refine ⟨some a, (List.range len0).map F, cap0, by simp, by simp; omega, (fun h => by cases h), slR_of (by omega) ?_⟩
    intro i x hx k u hk hu
    rw [List.getElem?_map] at hx
    by_cases hil : i < len0
    · rw [List.getElem?_range hil] at hx
      simp only [Option.map_some, Option.some.injEq] at hx
      subst hx
      exact hF i hil k u hk hu
    · rw [List.getElem?_eq_none (by simp; omega)] at hx; cases hx
end
end Go.KK
