/-
  A part of the proof of the claim that this folder bears.
-/
import Derived.Test.YtnhippfllgnngaaKB
import Derived.Maps.RangeRun
import Derived.Lib.AppendZerosOnto
import Derived.Laws.IdiomCopy
import Derived.Laws.BytesArg
import Derived.Laws.IdiomStrings
import Derived.Deep.Upon
/- The text K30. -/
/-!
  Maps: what is taken out of one, and a range over one, in whatever order its entries come.
-/
set_option linter.unusedVariables false
set_option linter.unusedSimpArgs false
set_option linter.unusedSectionVars false
namespace Go.KK
open Go.ChangeMaps (setBlock)
section
variable {κ : Type} [DecidableEq κ]
def adel (m : List (κ × Value)) (k : κ) : List (κ × Value) := match m.findIdx? (fun p => decide (k = p.1)) with
  | some j => m.eraseIdx j
  | none => m
/-- A map with an iterator over it, that has come to the entries of S, the last first. -/
@[irreducible] def mpIt (K : KeyE κ) (b i : Nat) (m : List (κ × Value)) (S : List Nat) : Asn := fun h => ∃ es clock seen, h b = some (.map es clock) ∧ h i = some (.mapIter (some b) clock seen clock) ∧ ents K es m ∧ bornOk es clock ∧
  seen.toList.reverse = S.map (fun j => ((es[j]?).map (·.born)).getD 0) ∧ ∀ j ∈ S, j < es.size
theorem mpIt_iff {K : KeyE κ} {b i : Nat} {m : List (κ × Value)} {S : List Nat} {h : Hp} : mpIt K b i m S h ↔ ∃ es clock seen, h b = some (.map es clock) ∧ h i = some (.mapIter (some b) clock seen clock) ∧ ents K es m ∧ bornOk es clock ∧
  seen.toList.reverse = S.map (fun j => ((es[j]?).map (·.born)).getD 0) ∧ ∀ j ∈ S, j < es.size := by unfold mpIt; exact Iff.rfl
theorem hp_setIf {w : World} {b : Nat} {o o' : Obj} (h : hp w b = some o) : hp { w with heap := w.heap.setIfInBounds b o' } = Hp.upd (hp w) b o' := by
  funext z
  have hb : b < w.heap.size := (Array.getElem?_eq_some_iff.1 h).1
  unfold hp Hp.upd
  simp only [Array.getElem?_setIfInBounds]
  by_cases e : z = b
  · subst e; simp [hb]
  · rw [if_neg (fun h => e h.symm), if_neg e]
theorem Hp.upd_le {h1 h : Hp} {b : Nat} {o : Obj} (hl : Hp.le h1 h) : Hp.le (Hp.upd h1 b o) (Hp.upd h b o) := fun x u hx => by
  unfold Hp.upd at *
  by_cases e : x = b
  · simpa [e] using hx
  · simp only [e, if_false] at *; exact hl _ _ hx
end
section
variable {κ : Type} [DecidableEq κ] {P : Program} {F : Fr} {L : List Asn} {dst : Option Tmp} {ty : TypeId} {pos : String} {aft : Array Edge} {gd : Option (Nat × Bool)}
class MpItIn {κ : outParam Type} (K : outParam (KeyE κ)) (L : List Asn) (i : Nat) (b : outParam Nat) (m : outParam (List (κ × Value))) (S : outParam (List Nat)) (f : outParam (Asn → List Asn)) : Prop where out : ∀ B, Rep (mpIt K b i m S) B L (f B)
instance MpItIn.head {κ : Type} {K : KeyE κ} {L : List Asn} {b i : Nat} {m : List (κ × Value)} {S : List Nat} : MpItIn K (mpIt K b i m S :: L) i b m S (fun B => B :: L) := ⟨fun _ => .head⟩
instance (priority := 900) MpItIn.tail {κ : Type} {K : KeyE κ} {A : Asn} {L : List Asn} {b i : Nat} {m : List (κ × Value)} {S : List Nat} {f : Asn → List Asn} [h : MpItIn K L i b m S f] : MpItIn K (A :: L) i b m S (fun B => A :: f B) := ⟨fun B => .tail (h.out B)⟩

theorem Eff.range {t kt et : Nat} [hT : MapT P t kt et] {x : Operand} {b : Nat} {K : KeyE κ} {m : List (κ × Value)} {f : Asn → List Asn} (hx : ev F x = some (.map (some b))) [hm : MpIn K L b m f] :
    Eff P F L ⟨dst, .range t x, ty, pos, aft, gd⟩ (fun u M => ∃ i, u = .pointer (some ⟨i, 0, none⟩) ∧ M = f (mpIt K b i m [])) := Eff.of_run fun ρ w hρ hs => by
  obtain ⟨es, clock, hb, he, hbo⟩ := MpIn.getB (b := b) (hh := hp w) hs
  have hut := run_underlying (P := P) hT.out w
  have hg := MapKept.run_getObj_map (P := P) (w := w) (r := b) (es := es) (clock := clock) hb
  have hbl : b < w.heap.size := (Array.getElem?_eq_some_iff.1 hb).1
  refine ⟨.pointer (some ⟨w.heap.size, 0, none⟩), { w with heap := w.heap.push (.mapIter (some b) clock #[] clock) }, f (mpIt K b w.heap.size m []), ?_, ⟨w.heap.size, rfl, rfl⟩, rfl, ?_⟩
  · have hex : execOp ρ ⟨dst, .range t x, ty, pos, aft, gd⟩ = (do pure (.value (← Instr.range t (ρ x)))) := rfl
    rw [hex]
    unfold Instr.range
    simp only [Sem.run_bind, hρ _ _ hx, hut, hg, Result.andThen_ok, Sem.run_pure]
    rfl
  · rw [hp_push]
    have hsz := hp_size w
    refine Sat.frameRep (hm.out _) hs fun h1 hA hl1 => ?_
    obtain ⟨es1, c1, hb1, he1, hbo1⟩ := mp_iff.1 hA
    have e2 : es1 = es ∧ c1 = clock := by have := hl1 _ _ hb1; rw [hb] at this; simp at this; exact ⟨this.1.symm, this.2.symm⟩
    obtain ⟨rfl, rfl⟩ := e2
    refine ⟨Hp.upd h1 w.heap.size (.mapIter (some b) c1 #[] c1), mpIt_iff.2 ⟨es1, c1, #[], ?_, by simp [Hp.upd], he1, hbo1, by simp, by simp⟩, Hp.upd_le hl1, ?_, ?_⟩
    · unfold Hp.upd; rw [if_neg (by omega)]; exact hb1
    · intro z hz
      unfold Hp.upd at hz
      by_cases e : z = w.heap.size
      · right; rw [e]; exact hsz
      · left; simpa [e] using hz
    · intro z o hz hno
      unfold Hp.upd
      by_cases e : z = w.heap.size
      · rw [e, hsz] at hz; cases hz
      · rw [if_neg e]; exact hz
theorem setBlock_hp {w w1 : World} {r : Nat} {o o' : Obj} (h1 : w1 = w ∨ w1 = w.drew) (h : hp w r = some o) : hp (setBlock w1 r o') = Hp.upd (hp w) r o' := by
  have e : hp (setBlock w1 r o') = hp { w with heap := w.heap.setIfInBounds r o' } := by rcases h1 with rfl | rfl <;> rfl
  rw [e]; exact hp_setIf h
theorem left_mem {es : Array MapEntry} {clock : Nat} {seen : Array Nat} {S : List Nat} (hbo : bornOk es clock) (hseen : seen.toList.reverse = S.map (fun j => ((es[j]?).map (·.born)).getD 0)) (hS : ∀ j ∈ S, j < es.size) {j : Nat} {e : MapEntry} (he : es[j]? = some e) :
    e ∈ (leftOf es seen).toList ↔ ¬ j ∈ S := by
  have hjl : j < es.size := (Array.getElem?_eq_some_iff.1 he).1
  have hmem : e.born ∈ seen.toList ↔ j ∈ S := by
    rw [← List.mem_reverse, hseen, List.mem_map]
    constructor
    · rintro ⟨i, hi, hb⟩
      have hil := hS i hi
      rw [Array.getElem?_eq_getElem hil] at hb
      simp only [Option.map_some, Option.getD_some] at hb
      have hp := List.pairwise_iff_getElem.1 hbo.1
      have hij : i = j := by
        rcases Nat.lt_trichotomy i j with h | h | h
        · have := hp i j (by simpa using hil) (by simpa using hjl) h
          simp only [List.getElem_map, Array.getElem_toList] at this
          rw [(Array.getElem?_eq_some_iff.1 he).2] at this
          exact absurd hb this
        · exact h
        · have := hp j i (by simpa using hjl) (by simpa using hil) h
          simp only [List.getElem_map, Array.getElem_toList] at this
          rw [(Array.getElem?_eq_some_iff.1 he).2] at this
          exact absurd hb.symm this
      exact hij ▸ hi
    · intro hj; exact ⟨j, hj, by rw [he]; rfl⟩
  unfold leftOf
  rw [Array.toList_filter, List.mem_filter]
  constructor
  · rintro ⟨_, h⟩ hj
    have : e.born ∈ seen := by simpa using hmem.2 hj
    simp [this] at h
  · intro hj
    refine ⟨by rw [← (Array.getElem?_eq_some_iff.1 he).2]; simp, ?_⟩
    have : ¬ e.born ∈ seen := fun h => hj (hmem.1 (by simpa using h))
    simp [this]
theorem Eff.next {x : Operand} {i b : Nat} {K : KeyE κ} {m : List (κ × Value)} {S : List Nat} {f : Asn → List Asn} (hx : ev F x = some (.pointer (some ⟨i, 0, none⟩))) [hm : MpItIn K L i b m S f] :
    Eff P F L ⟨dst, .next x false, ty, pos, aft, gd⟩ (fun u M => (∃ j k v, m[j]? = some (k, v) ∧ ¬ j ∈ S ∧ u = .tuple #[.bool true, K.v k, v] ∧ M = f (mpIt K b i m (j :: S))) ∨ ((∀ j, j < m.length → j ∈ S) ∧ u = .tuple #[.bool false] ∧ M = f (mpIt K b i m S))) := Eff.of_run fun ρ w hρ hs => by
  obtain ⟨h0, l0, a0⟩ := Sat.memRep (hm.out (mpIt K b i m S)) hs
  obtain ⟨es, clock, seen, hb1, hi1, he, hbo, hseen, hS⟩ := mpIt_iff.1 a0
  have hb : hp w b = some (.map es clock) := l0 _ _ hb1
  have hi : hp w i = some (.mapIter (some b) clock seen clock) := l0 _ _ hi1
  have hlen : es.size = m.length := ents_len he
  have hex : execOp ρ ⟨dst, .next x false, ty, pos, aft, gd⟩ = (do pure (.value (← Instr.next (ρ x) false ty))) := rfl
  have hall : ∀ j, j < es.size → ∃ e k v, es[j]? = some e ∧ m[j]? = some (k, v) ∧ e.key = K.v k ∧ e.val = v := by
    intro j hj
    have h1 := congrArg (fun l => l[j]?) he.1
    simp only [List.getElem?_map, Array.getElem?_toList, Array.getElem?_eq_getElem hj, List.getElem?_eq_getElem (show j < m.length by omega), Option.map_some, Option.some.injEq, Prod.mk.injEq] at h1
    exact ⟨es[j], m[j].1, m[j].2, Array.getElem?_eq_getElem hj, List.getElem?_eq_getElem (by omega), h1.1, h1.2⟩
  rcases run_next_at (P := P) w ty i b clock clock seen es clock hi hb hbo.2 (Nat.le_refl _) with ⟨h1, h2⟩ | ⟨e, he1, w1, hw1, hrun⟩
  · refine ⟨_, w, f (mpIt K b i m S), ?_, .inr ⟨fun j hj => ?_, rfl, rfl⟩, rfl, ?_⟩
    · rw [hex, Sem.run_bind, hρ _ _ hx, h2]; rfl
    · obtain ⟨e, k, v, g1, _⟩ := hall j (by omega)
      by_cases hj2 : j ∈ S
      · exact hj2
      · have h3 := (left_mem hbo hseen hS g1).2 hj2
        have h4 : (leftOf es seen).toList = [] := List.eq_nil_of_length_eq_zero (by rw [Array.length_toList]; exact h1)
        rw [h4] at h3; cases h3
    · obtain ⟨R, p1, p2⟩ := (hm.out (mpIt K b i m S)).perm
      exact (hs.perm p1).perm p2.symm
  · have hin : e ∈ es.toList := by
      unfold leftOf at he1
      rw [Array.toList_filter] at he1
      exact (List.mem_filter.1 he1).1
    obtain ⟨j, hj, hje⟩ := List.getElem_of_mem hin
    have hjl : j < es.size := by simpa using hj
    obtain ⟨e', k, v, g1, g2, g3, g4⟩ := hall j hjl
    have hee : e' = e := by rw [Array.getElem?_eq_getElem hjl] at g1; rw [← hje]; exact (Option.some.inj g1).symm
    subst hee
    have hjS := (left_mem hbo hseen hS g1).1 he1
    refine ⟨.tuple #[.bool true, K.v k, v], setBlock w1 i (.mapIter (some b) clock (seen.push e'.born) clock), f (mpIt K b i m (j :: S)), ?_, .inl ⟨j, k, v, g2, hjS, rfl, rfl⟩, ?_, ?_⟩
    · rw [hex, Sem.run_bind, hρ _ _ hx, hrun, g3, g4]; rfl
    · rcases hw1 with rfl | rfl <;> rfl
    · rw [setBlock_hp hw1 hi]
      refine Sat.frameRep (hm.out _) hs fun h1 hA hl1 => ?_
      obtain ⟨es1, c1, seen1, hb2, hi2, he2, hbo2, hs2, hS2⟩ := mpIt_iff.1 hA
      have e2 : es1 = es ∧ c1 = clock := by have := hl1 _ _ hb2; rw [hb] at this; simp at this; exact ⟨this.1.symm, this.2.symm⟩
      obtain ⟨rfl, rfl⟩ := e2
      have hne : b ≠ i := fun e => by rw [e, hi] at hb; cases hb
      refine ⟨Hp.upd h1 i (.mapIter (some b) c1 (seen.push e'.born) c1), mpIt_iff.2 ⟨es1, c1, seen.push e'.born, ?_, by simp [Hp.upd], he, hbo, ?_, ?_⟩, Hp.upd_le hl1, ?_, ?_⟩
      · unfold Hp.upd; rw [if_neg hne]; exact hb2
      · rw [Array.toList_push, List.reverse_append, hseen, List.map_cons, g1]; rfl
      · intro z hz
        rcases List.mem_cons.1 hz with rfl | hz
        · exact hjl
        · exact hS z hz
      · intro z hz
        unfold Hp.upd at hz
        by_cases e : z = i
        · left; rw [e, hi2]; simp
        · left; simpa [e] using hz
      · intro z o hz hno
        unfold Hp.upd
        by_cases e : z = i
        · rw [e, hi2] at hno; cases hno
        · rw [if_neg e]; exact hz
end
end Go.KK

/- The text K31. -/
/-!
  Copies, an append of zeros, bytes as strings, assertions in a list.
-/
set_option linter.unusedVariables false
set_option linter.unusedSimpArgs false
set_option linter.unusedSectionVars false
namespace Go.KK

/-- A list written over another one, from a place on. -/
def spl {α : Type} (xs : List α) (j : Nat) (ys : List α) : List α := xs.take j ++ ys ++ xs.drop (j + ys.length)
section
variable {P : Program} {F : Fr} {L : List Asn} {dst : Option Tmp} {ty : TypeId} {pos : String} {aft : Array Edge} {gd : Option (Nat × Bool)}

/-- append(s, make([]T, k)...), of elements of one cell. -/
theorem Eff.appendZ {α : Type} {E : Enc α} (x0 : α) {t tn by_ : Nat} {e : TypeId} {z : Value} {kn : IntKind} [ha : SlT P t e 1 by_ z] {s x : Operand} {a : Option Addr} {n cap k : Nat} {i : Int} {xs : List α} {f : Asn → List Asn}
    (htn : P.underlying tn = some (.int kn)) (hs : ev F s = some (.slice a n cap)) (hx : ev F x = some (.int .i64 i)) (hik : i = (k : Int)) [hh : SlH E L a cap xs f] (hT : E.T = e) (hm : E.m = 1) (hz : z.cells.toList = E.enc x0) (hn : n = xs.length)
    (h0 : 0 < k) (hb : (xs.length + k) * by_ ≤ 140737488355328) (hb2 : xs.length + k ≤ 140737488355328) :
    Eff P F L ⟨dst, .call ⟨.builtin .append, #[s, x], #[t, tn]⟩, ty, pos, aft, gd⟩ (fun u M => ∃ a' cap', u = .slice a' (xs.length + k) cap' ∧ M = f (sl E a' cap' (xs ++ List.replicate k x0))) := Eff.of_run fun ρ w hρ hw => by
  obtain ⟨i', hu, hi', hz', hi1, rfl, hzc⟩ := sltB_spec ha.out
  subst hT; subst hn; subst hik
  have hex : ∀ v w', (Builtin.append_ #[t, tn] ty #[.slice a xs.length cap, .int .i64 (k : Int)]).run P w = .ok v w' → (execOp ρ ⟨dst, .call ⟨.builtin .append, #[s, x], #[t, tn]⟩, ty, pos, aft, gd⟩).run P w = .ok (.value v) w' := by
    intro v w' h
    unfold execOp
    simp only [resolve, invoke, builtin, Sem.run_bind, Sem.run_pure, Result.andThen_ok, List.map_toArray, List.map_cons, List.map_nil, hρ _ _ hs, hρ _ _ hx, h]
  have hax := E.all_len xs
  rw [hm] at hax
  have hz1 : z.cells.size = 1 := by rw [← Array.length_toList, hz, E.len, hm]
  have hz2 : ∀ q, (Builtin.zeroCells z.cells q).toList = E.all (List.replicate q x0) := fun q => by
    have hc : z.cells = #[z.cells[0]] := by
      apply Array.ext
      · simp [hz1]
      · intro i h1 h2; simp at h2; subst h2; rfl
    have he : E.enc x0 = [z.cells[0]] := by rw [← hz]; conv => lhs; rw [hc]
    unfold Builtin.zeroCells
    rw [hz1, Nat.mul_one]
    apply List.ext_getElem
    · rw [E.all_len, hm]; simp
    · intro i h1 h2
      have hall : E.all (List.replicate q x0) = List.replicate q z.cells[0] := by
        unfold Enc.all
        rw [List.flatMap_replicate, he]
        clear h1 h2
        induction q with
        | zero => simp
        | succ q ih => rw [List.replicate_succ, List.flatten_cons, ih, List.replicate_succ]; rfl
      simp only [hall, List.getElem_replicate]
      simp [Nat.mod_one, getElem!_pos, hz1]
  have hfull : ∀ q, ((E.all xs ++ E.all (List.replicate k x0)) ++ E.all (List.replicate q x0)) = E.all (xs ++ List.replicate k x0) ++ E.all (List.replicate q x0) := fun q => by rw [E.all_append]
  by_cases hroom : xs.length + k ≤ cap
  · rcases hh.own hw with ⟨_, hc0, _⟩ | ⟨b, sp, rfl, q1, q2, q3, hbk⟩
    · omega
    rw [hm, Nat.mul_one] at q3
    have hzl := E.all_len (List.replicate k x0)
    rw [hm, List.length_replicate, Nat.mul_one] at hzl
    have hst := run_storeCells_at (P := P) b xs.length E.T (E.all (List.replicate k x0)) 0 (E.all xs ++ sp).toArray w hbk (by simp [hax, hzl]; omega) (E.all_one _)
    have hw2 : IntKind.i64.wrap (k : Int) = k := by rw [IntKind.wrap_i64]; omega
    have hkb : k * i'.bytes ≤ 140737488355328 := Nat.le_trans (Nat.mul_le_mul_right _ (by omega)) hb
    have h48i : ¬ (281474976710656 < (k : Int) * (i'.bytes : Int)) := by rw [← Int.natCast_mul]; omega
    have hr : (Builtin.append_ #[t, tn] ty #[.slice (some ⟨b, 0, none⟩) xs.length cap, .int .i64 (k : Int)]).run P w = .ok (.slice (some ⟨b, 0, none⟩) (xs.length + k) cap) (w.setRow b ((E.all xs ++ sp).take xs.length ++ E.all (List.replicate k x0) ++ (E.all xs ++ sp).drop (xs.length + k)).toArray) := by
      have hk : k ≠ 0 := by omega
      have hneg : ¬ ((k : Int) < 0) := by omega
      have hstz : (storeCells ⟨b, xs.length, none⟩ (Builtin.zeroCells z.cells k).toList).run P w = .ok () (w.setRow b ((E.all xs ++ sp).take xs.length ++ E.all (List.replicate k x0) ++ (E.all xs ++ sp).drop (xs.length + k)).toArray) := by
        rw [hz2]; rw [hst, hzl]; simp
      have ha2 : (⟨b, 0, none⟩ : Addr).add xs.length = ⟨b, xs.length, none⟩ := by unfold Addr.add; split <;> simp_all
      simp [Builtin.append_, run_underlying hu, run_underlying htn, sizeOf, typeInfo, zeroValue, hi', hz', hi1, asInt, asIntOf, hw2, hneg, hk, h48i, hroom, ha2, hstz]
    refine ⟨_, _, _, hex _ _ hr, ⟨_, _, rfl, rfl⟩, rfl, ?_⟩
    have e3 : ((E.all xs ++ sp).take xs.length ++ E.all (List.replicate k x0) ++ (E.all xs ++ sp).drop (xs.length + k)) = E.all (xs ++ List.replicate k x0) ++ sp.drop k := by
      rw [E.all_append, List.take_append_of_le_length (by omega), List.take_of_length_le (by omega), List.drop_append, List.drop_of_length_le (by omega), List.nil_append]
      congr 2; omega
    rw [e3]
    exact sl_row hh hw rfl hbk (.inr (by omega)) (by simp; omega) q2 (by rw [hm, List.length_drop, q3]; simp; omega)
  · have hold : (Builtin.firstCells i'.size xs.length (.slice a xs.length cap)).run P w.drew = .ok (E.all xs).toArray w.drew := by
      rcases hh.own hw with ⟨ha0, hc0, hx0⟩ | ⟨b, sp, ha0, q1, q2, q3, hbk⟩
      · subst ha0; subst hx0; exact run_firstCells_none w.drew _ _ _ _
      · subst ha0
        refine run_firstCells_some w.drew i'.size xs.length ⟨b, 0, none⟩ xs.length cap (E.all xs) (by rw [hax, hi1]) fun j u hj => ?_
        have h2 : (⟨b, 0, none⟩ : Addr).add j = ⟨b, j, none⟩ := by unfold Addr.add; split <;> simp_all
        have hlt := (List.getElem?_eq_some_iff.1 hj).1
        rw [h2]
        have : w.cell? ⟨b, j, none⟩ = some u := by
          rw [cell?_eq]
          simp only [cellH, hbk, Option.isSome_none, Bool.false_eq_true, if_false, List.getElem?_toArray]
          rw [List.getElem?_append_left hlt]; exact hj
        exact this
    have h63 : ((xs.length + k : Nat) : Int) ≤ 9223372036854775807 := by omega
    have hkb : k * i'.bytes ≤ 140737488355328 := Nat.le_trans (Nat.mul_le_mul_right _ (by omega)) hb
    have hr := Lib.run_append_grow_zeros (P := P) w t tn ty E.T i' z .i64 kn hu htn hi' hz' a xs.length cap (E.all xs) hold k h0 (by omega) (by omega) h63 (by omega) (growslice_fits (by omega) hb)
    have hcm := grownCap_le_maxLen w (xs.length + k) cap E.T (by unfold maxLen; omega)
    have hcl : xs.length + k ≤ grownCap w (xs.length + k) cap E.T := by unfold grownCap Question.cut; simp
    refine ⟨_, _, _, hex _ _ hr, ⟨_, _, rfl, rfl⟩, rfl, ?_⟩
    have hpush : ∀ o, hp (w.drew.alloc o) = Hp.upd (hp w) w.heap.size o := fun o => hp_push w o
    rw [hpush]
    have hsz := hp_size w
    refine Sat.frameRep (hh.out _) hw fun h1 hA hl1 => ?_
    refine ⟨fun z => if z = w.heap.size then some (.cells (E.all (xs ++ List.replicate k x0) ++ E.all (List.replicate (grownCap w (xs.length + k) cap E.T - (xs.length + k)) x0)).toArray E.T (0, 0)) else none, sl_iff.2 (.inr ⟨w.heap.size, _, rfl, by simpa using hcl, hcm, ?_, if_pos rfl⟩), ?_, ?_, ?_⟩
    · rw [E.all_len, List.length_replicate]; simp
    · intro q o hq
      dsimp only at hq
      unfold Hp.upd
      by_cases e : q = w.heap.size
      · rw [if_pos e] at hq ⊢
        cases hq
        congr 2
        apply Array.ext'
        simp only [Array.toList_append, hz2, E.all_append]
      · rw [if_neg e] at hq; cases hq
    · intro q hq
      dsimp only at hq
      by_cases e : q = w.heap.size
      · right; rw [e]; exact hsz
      · rw [if_neg e] at hq; exact absurd rfl hq
    · intro q o hq hno
      unfold Hp.upd
      by_cases e : q = w.heap.size
      · rw [e, hsz] at hq; cases hq
      · rw [if_neg e]; exact hq
end
end Go.KK

/- The text K32. -/
/-!
  Bytes as strings; what is only read; assertions in a list; slices of slices that are only read.
-/
set_option linter.unusedVariables false
set_option linter.unusedSimpArgs false
set_option linter.unusedSectionVars false
namespace Go.KK
section
variable {P : Program} {F : Fr} {L : List Asn} {dst : Option Tmp} {ty : TypeId} {pos : String} {aft : Array Edge} {gd : Option (Nat × Bool)}
def strB (xs : List UInt8) : ByteArray := ⟨xs.toArray⟩
/-- What is only read from now on. -/
@[irreducible] def rd {α : Type} (E : Enc α) (a : Option Addr) (xs : List α) : Asn := fun h => slR E h a xs
instance SlIn.rd {α : Type} {E : Enc α} {L : List Asn} {a : Option Addr} {xs : List α} : SlIn E (rd E a xs :: L) a xs := ⟨fun h hs => by
  obtain ⟨h1, l, s⟩ := hs.head
  have s2 : slR E h1 a xs := by unfold KK.rd at s; exact s
  exact s2.mono l⟩
end

/-! Assertions in a list. -/
class StarP (As : List Asn) (L : List Asn) (R : outParam (List Asn)) : Prop where out : L.Perm (star As :: R)
instance StarP.head {As : List Asn} {L : List Asn} : StarP As (star As :: L) L := ⟨.refl _⟩
instance (priority := 900) StarP.tail {As : List Asn} {B : Asn} {L R : List Asn} [h : StarP As L R] : StarP As (B :: L) (B :: R) := ⟨(h.out.cons B).trans (.swap _ _ _)⟩

/-! Slices of slices that are only read. -/
class RowsR {α : outParam Type} (E : outParam (Enc α)) (L : List Asn) (hs : List Hdr) (xss : outParam (List (List α))) : Prop where
  out : ∀ h, Sat h L → hs.map (·.n) = xss.map (·.length) ∧ ∀ (i : Nat) (hd : Hdr) (xs : List α), hs[i]? = some hd → xss[i]? = some xs → slR E h hd.a xs ∧ (hd.a = none → hd.n = 0 ∧ hd.cap = 0) ∧ hd.n ≤ hd.cap
instance (priority := 900) RowsR.tail {α : Type} {E : Enc α} {A : Asn} {L : List Asn} {hs : List Hdr} {xss : List (List α)} [hh : RowsR E L hs xss] : RowsR E (A :: L) hs xss := ⟨fun h s => hh.out h s.tail⟩
theorem RowsR.row {α : Type} {E : Enc α} {L : List Asn} {hs : List Hdr} {xss : List (List α)} (hh : RowsR E L hs xss) {i : Nat} {hd : Hdr} {xs : List α} (h1 : hs[i]? = some hd) (h2 : xss[i]? = some xs) : SlIn E L hd.a xs := ⟨fun h s => ((hh.out h s).2 i hd xs h1 h2).1⟩
theorem RowsR.len {α : Type} {E : Enc α} {L : List Asn} {hs : List Hdr} {xss : List (List α)} [hh : RowsR E L hs xss] {h : Hp} (s : Sat h L) : hs.map (·.n) = xss.map (·.length) := (hh.out h s).1
theorem RowsR.fit {α : Type} {E : Enc α} {L : List Asn} {hs : List Hdr} {xss : List (List α)} [hh : RowsR E L hs xss] {h : Hp} (s : Sat h L) {i : Nat} {hd : Hdr} {xs : List α} (h1 : hs[i]? = some hd) (h2 : xss[i]? = some xs) : (hd.a = none → hd.n = 0 ∧ hd.cap = 0) ∧ hd.n ≤ hd.cap := ((hh.out h s).2 i hd xs h1 h2).2
class InpR {α : outParam Type} (E : outParam (Enc α)) (h0 : Hp) (hs : List Hdr) (xss : outParam (List (List α))) : Prop where
  out : hs.map (·.n) = xss.map (·.length) ∧ ∀ (i : Nat) (hd : Hdr) (xs : List α), hs[i]? = some hd → xss[i]? = some xs → slR E h0 hd.a xs ∧ (hd.a = none → hd.n = 0 ∧ hd.cap = 0) ∧ hd.n ≤ hd.cap
instance InpR.rowsR {α : Type} {E : Enc α} {h0 : Hp} {L : List Asn} {hs : List Hdr} {xss : List (List α)} [hh : InpR E h0 hs xss] : RowsR E (inp h0 :: L) hs xss := ⟨fun h s => by
  obtain ⟨h1, l, a⟩ := s.head
  refine ⟨hh.out.1, fun i hd xs e1 e2 => ?_⟩
  obtain ⟨g1, g2⟩ := hh.out.2 i hd xs e1 e2
  exact ⟨g1.mono (Hp.le_trans (inp_iff.1 a) l), g2⟩⟩
end Go.KK

/- The text K33. -/
/-!
  Slice arguments of whatever elements; of bytes; of slices.
-/
set_option linter.unusedVariables false
set_option linter.unusedSimpArgs false
set_option linter.unusedSectionVars false
namespace Go.KK
open Go.ChangeShapes Go.WideShapes Go.ChangeAt Go.RowKit
section
open Go.Deep
variable {H : Type} {enc : TypeId × Value → H} {P : Program} {w : World} {base : Nat} {spare : Nat → Bool} {held : Bool}
theorem open_gen {α : Type} [Inhabited α] (E : Enc α) {t e : TypeId} {v : Value} {d : DataW H} {ps : List MemPlace} (ht : P.underlying t = some (.slice e)) (hC : P.cellsOf e = E.m) (hm : 0 < E.m)
    (hel : ∀ (fuel : Nat) (cs : List Value) (x : DataW H × List MemPlace), DataW.trod enc P w base spare held fuel e cs = some x → ∃ g : α, E.enc g = cs)
    (hv : ∃ a len cap, v = .slice a len cap) (h : DataW.Trod enc P w base spare held t v d ps) : ∃ (a : Option Addr) (xs : List α) (cap : Nat), v = .slice a xs.length cap ∧ xs.length ≤ maxLen ∧ xs.length ≤ cap ∧ (a = none → xs = [] ∧ cap = 0) ∧ slR E (hp w) a xs ∧
      ∀ x ∈ xs, ∃ (fuel : Nat) (y : DataW H × List MemPlace), DataW.trod enc P w base spare held fuel e (E.enc x) = some y := by
  obtain ⟨fuel, hf⟩ := h
  obtain ⟨a0, len0, cap0, rfl⟩ := hv
  rcases open_slice ht hf with h0 | ⟨a, len, cap, m, n, D, Pl, h0, hb, h1, h2, hmm, hx, hi⟩
  · simp [Value.cells] at h0
    obtain ⟨⟨rfl, rfl, rfl⟩, _⟩ := h0
    exact ⟨none, [], 0, rfl, by unfold maxLen; simp, by simp, fun _ => ⟨rfl, rfl⟩, .inl rfl, by simp⟩
  · simp [Value.cells] at h0
    obtain ⟨rfl, rfl, rfl⟩ := h0
    have hex : ∀ i, i < len0 → ∃ x : α, (∀ k u, k < E.m → (E.enc x)[k]? = some u → w.cell? (a.add (i * E.m + k)) = some u) ∧ DataW.trod enc P w base spare held n e (E.enc x) = some (D i, Pl i) := by
      intro i hil
      obtain ⟨cs', hc, ht'⟩ := hi i (by rw [hmm]; split <;> omega)
      rw [hC] at hc
      obtain ⟨_, hcl, hat⟩ := World.cells?_some hc
      obtain ⟨g, hg⟩ := hel _ _ _ ht'
      refine ⟨g, fun k u hk hu => ?_, by rw [hg]; exact ht'⟩
      have := hat k hk
      rw [Go.Deep.add_add] at this
      rw [this, ← hg, hu]
    obtain ⟨F, hF⟩ := choose_lt hex
    refine ⟨some a, (List.range len0).map F, cap0, by simp, by simp; omega, by simp; omega, (fun h => by cases h), slR_of hm ?_, fun x hx => ?_⟩
    · intro i x hx k u hk hu
      rw [List.getElem?_map] at hx
      by_cases hil : i < len0
      · rw [List.getElem?_range hil] at hx
        simp only [Option.map_some, Option.some.injEq] at hx
        subst hx
        exact (hF i hil).1 k u hk hu
      · rw [List.getElem?_eq_none (by simp; omega)] at hx; cases hx
    · obtain ⟨i, hi', rfl⟩ := List.mem_map.1 hx
      exact ⟨n, _, (hF i (List.mem_range.1 hi')).2⟩
theorem trod_hdr {t e fuel : Nat} {cs : List Value} {x : DataW H × List MemPlace} (T : TypeId) (ht : P.underlying t = some (.slice e)) (h : DataW.trod enc P w base spare held fuel t cs = some x) : ∃ g : Hdr, (hdrE T).enc g = cs := by
  rcases open_slice ht h with h0 | ⟨a, len, cap, m, n, D, Pl, h0, _⟩
  · exact ⟨⟨none, 0, 0⟩, h0.1.symm⟩
  · exact ⟨⟨some a, len, cap⟩, h0.symm⟩
/-- A slice of slices. -/
theorem open_rows {α : Type} [Inhabited α] (E : Enc α) (T : TypeId) {t e e2 : TypeId} {v : Value} {d : DataW H} {ps : List MemPlace} (ht : P.underlying t = some (.slice e)) (he : P.underlying e = some (.slice e2)) (hC1 : P.cellsOf e = 1) (hC : P.cellsOf e2 = E.m) (hm : 0 < E.m)
    (hel : ∀ (fuel : Nat) (cs : List Value) (x : DataW H × List MemPlace), DataW.trod enc P w base spare held fuel e2 cs = some x → ∃ g : α, E.enc g = cs)
    (hv : ∃ a len cap, v = .slice a len cap) (h : DataW.Trod enc P w base spare held t v d ps) : ∃ (a : Option Addr) (hs : List Hdr) (cap : Nat) (xss : List (List α)), v = .slice a hs.length cap ∧ hs.length ≤ maxLen ∧ hs.length ≤ cap ∧ (a = none → hs = [] ∧ cap = 0) ∧ slR (hdrE T) (hp w) a hs ∧
      InpR E (hp w) hs xss ∧ ∀ xs ∈ xss, xs.length ≤ maxLen := by
  obtain ⟨a, hs, cap, h1, h2, h3, h4, h5, h6⟩ := open_gen (hdrE T) ht hC1 (by show 0 < 1; omega) (fun fuel cs x hx => trod_hdr T he hx) hv h
  have hex : ∀ i, i < hs.length → ∃ xs : List α, ∀ hd, hs[i]? = some hd → hd.n = xs.length ∧ slR E (hp w) hd.a xs ∧ (hd.a = none → hd.n = 0 ∧ hd.cap = 0) ∧ hd.n ≤ hd.cap ∧ xs.length ≤ maxLen := by
    intro i hi
    obtain ⟨fuel, y, hy⟩ := h6 hs[i] (List.getElem_mem hi)
    have hT : DataW.Trod enc P w base spare held e (.slice hs[i].a hs[i].n hs[i].cap) y.1 y.2 := ⟨fuel, hy⟩
    obtain ⟨a', xs, cap', g1, g2, g3, g4, g5, _⟩ := open_gen E he hC hm hel ⟨_, _, _, rfl⟩ hT
    refine ⟨xs, fun hd hhd => ?_⟩
    rw [List.getElem?_eq_getElem hi] at hhd
    cases hhd
    simp only [Value.slice.injEq] at g1
    obtain ⟨rfl, g6, rfl⟩ := g1
    exact ⟨g6, g5, fun e => ⟨by rw [g6, (g4 e).1]; rfl, (g4 e).2⟩, by omega, g2⟩
  obtain ⟨F, hF⟩ := choose_lt hex
  refine ⟨a, hs, cap, (List.range hs.length).map F, h1, h2, h3, h4, h5, ⟨?_, fun i hd xs e1 e2 => ?_⟩, fun xs hx => ?_⟩
  · apply List.ext_getElem?
    intro i
    rw [List.getElem?_map, List.getElem?_map, List.getElem?_map]
    by_cases hi : i < hs.length
    · rw [List.getElem?_range hi, List.getElem?_eq_getElem hi]
      exact congrArg some (hF i hi _ (List.getElem?_eq_getElem hi)).1
    · rw [List.getElem?_eq_none (by omega), List.getElem?_eq_none (by simp; omega)]; rfl
  · have hi : i < hs.length := (List.getElem?_eq_some_iff.1 e1).1
    rw [List.getElem?_map, List.getElem?_range hi] at e2
    cases e2
    have := hF i hi hd e1
    exact ⟨this.2.1, this.2.2.1, this.2.2.2.1⟩
  · obtain ⟨i, hi, rfl⟩ := List.mem_map.1 hx
    have hil := List.mem_range.1 hi
    exact (hF i hil _ (List.getElem?_eq_getElem hil)).2.2.2.2
end
end Go.KK

/- The text K34. -/
/-!
  A slice argument of structs of which one field is a slice and the others are ints, strings and bools.
-/
set_option linter.unusedVariables false
set_option linter.unusedSimpArgs false
set_option linter.unusedSectionVars false
namespace Go.KK
open Go.ChangeShapes Go.WideShapes Go.ChangeAt Go.RowKit
section
open Go.Deep
variable {H : Type} {enc : TypeId × Value → H} {P : Program} {w : World} {base : Nat} {spare : Nat → Bool} {held : Bool}
end
end Go.KK

/- The text K35. -/
/-!
  A range over a function of one value whose next value is not known beforehand (the keys of a map).
-/
set_option linter.unusedVariables false
set_option linter.unusedSimpArgs false
namespace Go.KK
section
variable {c : Rx} {R : RP} {ds : List Deferred} {F : Fr} {L : List Asn}
theorem JR.star {M : List Asn} {x : Code} (h : JR c R ds F (M ++ L) x) : JR c R ds F (star M :: L) x := fun a w hF hs he => h a w hF (Sat.star.1 hs) he
end
end Go.KK

/- The text K36. -/
/-!
  A map's look-up that tells whether the key is there.
-/
set_option linter.unusedVariables false
set_option linter.unusedSimpArgs false
namespace Go.KK
section
variable {κ : Type} [DecidableEq κ] {P : Program} {F : Fr} {L : List Asn} {dst : Option Tmp} {ty : TypeId} {pos : String} {aft : Array Edge} {gd : Option (Nat × Bool)}
end
end Go.KK

/- The text K37. -/
/-!
  Rows that are owned, read as rows that are only read; a struct argument taken apart.
-/
set_option linter.unusedVariables false
set_option linter.unusedSimpArgs false
set_option linter.unusedSectionVars false
namespace Go.KK
instance RowsR.own {α : Type} {E : Enc α} {L : List Asn} {hs : List Hdr} {xss : List (List α)} : RowsR E (rows E hs xss :: L) hs xss := ⟨fun h s => by
  have e := (rows_iff.1 s).1
  refine ⟨e, fun i hd xs h1 h2 => ?_⟩
  have s2 := rows_open h1 h2 s
  have hn := hdr_n e h1 h2
  have g1 : slR E h hd.a xs := SlIn.head.out h s2
  have g2 := SlH.nil (a := hd.a) (cap := hd.cap) (E := E) (xs := xs) s2
  have g3 := SlH.le (a := hd.a) (cap := hd.cap) (E := E) (xs := xs) s2
  exact ⟨g1, fun ha => by obtain ⟨a1, a2⟩ := g2 ha; exact ⟨by rw [hn, a1]; rfl, a2⟩, by omega⟩⟩
end Go.KK

/- The text K38. -/
/-!
  A store of a whole element of a slice.
-/
set_option linter.unusedVariables false
set_option linter.unusedSimpArgs false
set_option linter.unusedSectionVars false
namespace Go.KK
section
variable {P : Program} {F : Fr} {L : List Asn} {dst : Option Tmp} {ty : TypeId} {pos : String} {aft : Array Edge} {gd : Option (Nat × Bool)}
theorem Eff.storeSA {α : Type} {E : Enc α} {t m n : Nat} [h1 : Agg P t n] {x y : Operand} {a : Option Addr} {cap i : Nat} {xs : List α} {z' : α} {cs' : List Value} {f : Asn → List Asn}
    (hx : ev F x = some (.pointer (some (el a m i)))) (hy : ev F y = some (.agg cs'.toArray)) [hs : SlH E L a cap xs f] (hm : E.m = m) (hn : n = m) (hi : i < xs.length) (hz : cs' = E.enc z') :
    Eff P F L ⟨dst, .store t x y, ty, pos, aft, gd⟩ (fun u M => u = undef ∧ M = f (sl E a cap (xs.set i z'))) := Eff.of_skip fun ρ w hρ hw => by
  subst hm; subst hz; subst hn
  have hr := hs.out (sl E a cap (xs.set i z'))
  obtain ⟨h0, l0, a0⟩ := Sat.memRep hr hw
  rcases sl_iff.1 a0 with ⟨_, _, hn⟩ | ⟨b, spare, ha, q1, q2, q3, hb⟩
  · subst hn; simp at hi
  subst ha
  have hbw : KK.hp w b = some (.cells (E.all xs ++ spare).toArray E.T (0, 0)) := l0 _ _ hb
  have hle : i * E.m + E.m ≤ (E.all xs).length := by
    rw [E.all_len]
    have : (i + 1) * E.m ≤ xs.length * E.m := Nat.mul_le_mul_right _ hi
    rw [Nat.add_mul] at this; omega
  have hst := run_storeVar_off P w b (i * E.m) E.T t (E.all xs ++ spare) (E.enc z') hbw (by rw [h1.size, E.len]) (by rw [E.len, List.length_append]; omega) (List.all_eq_true.2 fun v hv => E.one z' v hv)
  have e2 : splice (E.all xs ++ spare) (i * E.m) (E.enc z') = E.all (xs.set i z') ++ spare := by
    rw [all_set E hi]
    unfold splice
    rw [E.len, List.take_append_of_le_length (by omega), List.drop_append_of_le_length (by omega)]
    simp
  rw [e2] at hst
  have hel : (el (some ⟨b, 0, none⟩) E.m i) = ⟨b, i * E.m, none⟩ := by simp [el]
  refine ⟨w.setRow b (E.all (xs.set i z') ++ spare).toArray, f (sl E (some ⟨b, 0, none⟩) cap (xs.set i z')), ?_, ⟨rfl, rfl⟩, rfl, ?_⟩
  · have he : execOp ρ ⟨dst, .store t x y, ty, pos, aft, gd⟩ = (do Instr.storeAt t (ρ x) (ρ y); pure .skip) := rfl
    rw [he, Sem.run_bind, hρ _ _ hx, hρ _ _ hy, hel]
    have : (Instr.storeAt t (.pointer (some ⟨b, i * E.m, none⟩)) (.agg (E.enc z').toArray)).run P w = .ok () (w.setRow b (E.all (xs.set i z') ++ spare).toArray) := by
      simp only [Instr.storeAt, Instr.sureAddr, Sem.run_bind, Sem.run_pure, Result.andThen_ok]
      exact hst
    rw [this]; rfl
  · rw [hp_setRow _ _ _ _ _ _ hbw]
    refine Sat.frameRep hr hw fun h1 hA hl1 => ?_
    rcases sl_iff.1 hA with ⟨hno, _, _⟩ | ⟨b', spare', ha', r1, r2, r3, hb'⟩
    · cases hno
    simp only [Option.some.injEq, Addr.mk.injEq, true_and, and_true] at ha'
    subst ha'
    have hsp : spare' = spare := by
      have h2 := hl1 _ _ hb'
      rw [hbw] at h2
      simpa using h2.symm
    subst hsp
    refine ⟨Hp.upd h1 b (.cells (E.all (xs.set i z') ++ spare').toArray E.T (0, 0)), ?_, Hp.upd_le hl1, ?_, ?_⟩
    · exact sl_iff.2 (.inr ⟨b, spare', rfl, by simpa using r1, r2, by simpa using r3, by simp [Hp.upd]⟩)
    · intro x hx'
      unfold Hp.upd at hx'
      by_cases e : x = b
      · left; rw [e, hb']; simp
      · left; simpa [e] using hx'
    · intro x o hxo hno
      unfold Hp.upd
      by_cases e : x = b
      · rw [e, hb'] at hno; cases hno
      · simpa [e] using hxo
end
end Go.KK

/- The text K39. -/
/-!
  Struct arguments whose fields are one cell each.
-/
set_option linter.unusedVariables false
set_option linter.unusedSimpArgs false
set_option linter.unusedSectionVars false
namespace Go.KK
open Go.ChangeShapes Go.WideShapes Go.ChangeAt Go.RowKit
section
open Go.Deep
variable {H : Type} {enc : TypeId × Value → H} {P : Program} {w : World} {base : Nat} {spare : Nat → Bool} {held : Bool}
theorem open_cells {t : TypeId} {fs : Array Field} {fuel : Nat} {cs : List Value} {x : DataW H × List MemPlace} (hs : P.underlying t = some (.struct fs)) (hone : ∀ (i : Nat) (f : Field), fs[i]? = some f → f.offset = i ∧ P.cellsOf f.type = 1) (hC : P.cellsOf t = fs.size)
    (h : DataW.trod enc P w base spare held fuel t cs = some x) :
    ∃ (ys : List (DataW H × List MemPlace)), x = (.agg (ys.map (·.1)), ys.flatMap (·.2)) ∧ cs.length = fs.size ∧ ys.length = fs.size ∧
      ∀ (i : Nat) (f : Field) (c : Value) (y : DataW H × List MemPlace), fs[i]? = some f → cs[i]? = some c → ys[i]? = some y → ∃ n, DataW.trod enc P w base spare held n f.type [c] = some y := by
  obtain ⟨xs, n, _, hx, hl, hxl, hff⟩ := DataW.trod_struct hs h
  refine ⟨xs, hx, by rw [hl, hC], hxl, fun i f c y hi hc hy => ⟨n, ?_⟩⟩
  obtain ⟨ho, hc1⟩ := hone i f hi
  have g := hff i f hi
  have hlt := (List.getElem?_eq_some_iff.1 hc).1
  rw [ho, hc1, take1_drop cs i undef hlt, hy] at g
  rw [List.getD_eq_getElem?_getD, hc] at g
  exact g
theorem open_struct {t : TypeId} {fs : Array Field} {v : Value} {d : DataW H} {ps : List MemPlace} (hs : P.underlying t = some (.struct fs)) (hone : ∀ (i : Nat) (f : Field), fs[i]? = some f → f.offset = i ∧ P.cellsOf f.type = 1) (hC : P.cellsOf t = fs.size)
    (hv : ∃ cs, v = .agg cs ∧ cs.size = P.cellsOf t) (h : DataW.Trod enc P w base spare held t v d ps) :
    ∃ (cs : List Value) (ys : List (DataW H × List MemPlace)), v = .agg cs.toArray ∧ d = .agg (ys.map (·.1)) ∧ ps = ys.flatMap (·.2) ∧ cs.length = fs.size ∧ ys.length = fs.size ∧
      ∀ (i : Nat) (f : Field) (c : Value) (y : DataW H × List MemPlace), fs[i]? = some f → cs[i]? = some c → ys[i]? = some y → ∃ n, DataW.trod enc P w base spare held n f.type [c] = some y := by
  obtain ⟨fuel, hf⟩ := h
  obtain ⟨cs, rfl, hsz⟩ := hv
  obtain ⟨ys, hx, h1, h2, h3⟩ := open_cells hs hone hC (show DataW.trod enc P w base spare held fuel t cs.toList = some (d, ps) from hf)
  exact ⟨cs.toList, ys, by simp, congrArg Prod.fst hx, congrArg Prod.snd hx, h1, h2, h3⟩
theorem len1 {α : Type} {l : List α} (h : l.length = 1) : ∃ a, l = [a] := List.length_eq_one_iff.1 h
theorem len2 {α : Type} {l : List α} (h : l.length = 2) : ∃ a b, l = [a, b] := by
  match l, h with
  | [a, b], _ => exact ⟨a, b, rfl⟩
theorem len3 {α : Type} {l : List α} (h : l.length = 3) : ∃ a b c, l = [a, b, c] := by
  match l, h with
  | [a, b, c], _ => exact ⟨a, b, c, rfl⟩
/-- A cell that is a slice's is read as the slice. -/
theorem cell_slice {t e : TypeId} {n : Nat} {c : Value} {y : DataW H × List MemPlace} (ht : P.underlying t = some (.slice e)) (h : DataW.trod enc P w base spare held n t [c] = some y) : (∃ a len cap, c = .slice a len cap) ∧ DataW.Trod enc P w base spare held t c y.1 y.2 := by
  have hs : ∃ a len cap, c = .slice a len cap := by
    rcases open_slice ht h with h0 | ⟨a, len, cap, m, n', D, Pl, h0, _⟩
    · simp at h0; exact ⟨_, _, _, h0.1⟩
    · simp at h0; exact ⟨_, _, _, h0⟩
  refine ⟨hs, n, ?_⟩
  obtain ⟨a, len, cap, rfl⟩ := hs
  exact h
theorem cell_int {t : TypeId} {k : IntKind} {n : Nat} {c : Value} {y : DataW H × List MemPlace} (ht : P.underlying t = some (.int k)) (h : DataW.trod enc P w base spare held n t [c] = some y) : ∃ z, c = .int k z ∧ (Lit.int k z).wf = true := by
  obtain ⟨s, e, _, hw⟩ := DataW.trod_int ht h
  simp at e; exact ⟨s, e, hw⟩
/-- What a struct's parts weigh. -/
theorem reach_fields {t : TypeId} {fs : Array Field} {parts : List (DataW H)} {ts : List TypeId} {ds : List (DataW H)} {j : Nat} (hz : (DataW.weightsEach P ts ds).all (· ≤ reachBytes) = true) (h1 : ts[j]? = some t) (h2 : ds[j]? = some (.agg parts)) (hs : P.underlying t = some (.struct fs)) :
    (DataW.weightsEach P (fs.toList.map (·.type)) parts).all (· ≤ reachBytes) = true := by
  refine List.all_eq_true.2 fun n hn => ?_
  exact List.all_eq_true.1 hz n (DataW.weights_mem_each h1 h2 n (by simp only [DataW.weights, hs]; exact hn))
end
end Go.KK

/- The text K40. -/
/-!
  The middle of two ints by way of uint.
-/
set_option linter.unusedVariables false
set_option linter.unusedSimpArgs false
namespace Go.KK
section
variable {P : Program} {F : Fr} {L : List Asn} {dst : Option Tmp} {ty : TypeId} {pos : String} {aft : Array Edge} {gd : Option (Nat × Bool)}
class IntT (P : Program) (t : Nat) (k : outParam IntKind) : Prop where
  out : P.underlying t = some (.int k)
theorem Pur.convI {t t' : Nat} {k k' : IntKind} {x : Operand} {n : Int} [h1 : IntT P t k] [h2 : IntT P t' k'] (hx : ev F x = some (.int k n)) (h : k'.wrap n = n) :
    Pur P F L ⟨dst, .convert t t' x, ty, pos, aft, gd⟩ (.int k' n) := fun ρ w hρ _ => by
  have e1 := h1.out
  have e2 := h2.out
  have hk : P.intKind t' = k' := by simp [Program.intKind, e2]
  have := run_convert_int (P := P) t t' k n (by rw [e1]; rfl) (by rw [e2, hk]) (w := w)
  rw [hk, h] at this
  simp [execOp, hρ _ _ hx, this, go_sem]
theorem Pur.shrU1 {t t' : Nat} {x y : Operand} {n : Nat} {j : Int} (hx : ev F x = some (.int .u64 j)) (hy : ev F y = some (.int .u64 1)) (hj : j = (n : Int)) :
    Pur P F L ⟨dst, .binOp .shr t x y t', ty, pos, aft, gd⟩ (.int .u64 ((n / 2 : Nat) : Int)) := fun ρ w hρ _ => by
  subst hj
  have h1 := shift_shr_u64 (yk := .u64) (x := (n : Int)) (y := 1) (by omega) (by omega)
  have h2 : (n : Int) / 2 ^ (1 : Int).toNat = ((n / 2 : Nat) : Int) := by rw [Int.natCast_ediv]; rfl
  rw [h2] at h1
  simp [execOp, hρ _ _ hx, hρ _ _ hy, eqGuard, binOp_shr, h1, go_sem]
end
end Go.KK
namespace Go.KK
theorem CellsIn.sub1 {L : List Asn} {b k : Nat} {cs : List Value} {T : TypeId} {fz : Nat × Nat} {v : Value} [hb : BlkIn L b (.cells cs.toArray T fz)] (h : cs[k]? = some v) : CellsIn L ⟨b, k, none⟩ [v] := fun hh hs j u hv => by
  have h1 := hb.out hh hs
  match j, hv with
  | 0, hv =>
    obtain rfl := Option.some.inj hv
    simp [cellH, h1, h]
end Go.KK

/- The text K41. -/
set_option linter.unusedVariables false
set_option linter.unusedSimpArgs false
namespace Go.KK
section
variable {P : Program} {F : Fr} {L : List Asn} {dst : Option Tmp} {ty : TypeId} {pos : String} {aft : Array Edge} {gd : Option (Nat × Bool)}
end
end Go.KK
