/-
  A part of the proof of the claim that this folder bears.
-/
import Derived.Test.YtnhippfllgnngaaKC
import Derived.Lib.AppendZerosOnto
import Derived.Laws.IdiomCopy
import Derived.Laws.BytesArg
import Derived.Laws.IdiomStrings
/- The text K31. -/
/-!
  Copies, an append of zeros, bytes as strings, assertions in a list.
-/
set_option linter.unusedVariables false
set_option linter.unusedSimpArgs false
set_option linter.unusedSectionVars false
namespace Go.KK

/-- A list written over another one, from a place on. -/
def spl {α : Type} (xs : List α) (j : Nat) (ys : List α) : List α := xs.take j ++ ys ++ xs.drop (j + ys.length)
theorem spl_len {α : Type} {xs ys : List α} {j : Nat} (h : j + ys.length ≤ xs.length) : (spl xs j ys).length = xs.length := by simp [spl]; omega
theorem spl_nil {α : Type} {xs : List α} {j : Nat} : spl xs j [] = xs := by simp [spl]
theorem all_spl {α : Type} {E : Enc α} {xs ys : List α} {j : Nat} (h1 : E.m = 1) (h : j + ys.length ≤ xs.length) : E.all (spl xs j ys) = (E.all xs).take j ++ E.all ys ++ (E.all xs).drop (j + (E.all ys).length) := by
  have l1 : (E.all (xs.take j)).length = j := by rw [E.all_len, h1, List.length_take]; omega
  have l2 : (E.all (xs.take (j + ys.length))).length = j + (E.all ys).length := by rw [E.all_len, h1, E.all_len, h1, List.length_take]; omega
  have t1 : E.all xs = E.all (xs.take j) ++ E.all (xs.drop j) := by rw [← E.all_append, List.take_append_drop]
  have t2 : E.all xs = E.all (xs.take (j + ys.length)) ++ E.all (xs.drop (j + ys.length)) := by rw [← E.all_append, List.take_append_drop]
  have e1 : E.all (xs.take j) = (E.all xs).take j := by
    have := List.take_left' (l₂ := E.all (xs.drop j)) l1
    rw [← t1] at this; exact this.symm
  have e2 : E.all (xs.drop (j + ys.length)) = (E.all xs).drop (j + (E.all ys).length) := by
    have := List.drop_left' (l₂ := E.all (xs.drop (j + ys.length))) l2
    rw [← t2] at this; exact this.symm
  unfold spl
  rw [E.all_append, E.all_append, e1, e2]

section
variable {P : Program} {F : Fr} {L : List Asn} {dst : Option Tmp} {ty : TypeId} {pos : String} {aft : Array Edge} {gd : Option (Nat × Bool)}

theorem Rep.self {A : Asn} {L : List Asn} {f : Asn → List Asn} (hr : ∀ B, Rep A B L (f B)) : f A = L := (Rep.same (hr A)).symm
theorem Eff.copyT {α : Type} {E : Enc α} {t by_ : Nat} {e : TypeId} {z : Value} [ha : SlT P t e 1 by_ z] {x y : Operand} {a a2 : Option Addr} {cap j n d n2 cap2 : Nat} {xs ys : List α} {f : Asn → List Asn}
    (hx : ev F x = some (.slice (tailA a cap j 1) (n - j) d)) (hy : ev F y = some (.slice a2 n2 cap2)) [hh : SlH E L a cap xs f] [hi : SlIn E L a2 ys] (hT : E.T = e) (hm : E.m = 1) (hn : n = xs.length) (hn2 : n2 = ys.length)
    (hle : j + ys.length ≤ xs.length) :
    Eff P F L ⟨dst, .call ⟨.builtin .copy, #[x, y], #[t, t]⟩, ty, pos, aft, gd⟩ (fun u M => u = .int .i64 (ys.length : Int) ∧ M = f (sl E a cap (spl xs j ys))) := Eff.of_run fun ρ w hρ hw => by
  obtain ⟨i', hu, hi', hz', hi1, rfl, hzc⟩ := sltB_spec ha.out
  have hsz : (P.info? e).map (·.size) = some 1 := by rw [hi', Option.map_some, hi1]
  subst hT; subst hn; subst hn2
  have hex : ∀ v w', (Builtin.copy_ #[t, t] ty #[.slice (tailA a cap j 1) (xs.length - j) d, .slice a2 ys.length cap2]).run P w = .ok v w' → (execOp ρ ⟨dst, .call ⟨.builtin .copy, #[x, y], #[t, t]⟩, ty, pos, aft, gd⟩).run P w = .ok (.value v) w' := by
    intro v w' h
    unfold execOp
    simp only [resolve, invoke, builtin, Sem.run_bind, Sem.run_pure, Result.andThen_ok, List.map_toArray, List.map_cons, List.map_nil, hρ _ _ hx, hρ _ _ hy, h]
  by_cases h0 : ys.length = 0
  · have hy0 : ys = [] := List.eq_nil_of_length_eq_zero h0
    subst hy0
    have hr := run_copy_none (P := P) w t t ty E.T (tailA a cap j 1) a2 (xs.length - j) d 0 cap2 hu hsz (by simp)
    refine ⟨_, w, _, hex _ _ hr, ⟨rfl, rfl⟩, rfl, ?_⟩
    rw [spl_nil, Rep.self hh.out]; exact hw
  · rcases hh.own hw with ⟨_, _, hx0⟩ | ⟨b, sp, rfl, q1, q2, q3, hb⟩
    · subst hx0; simp only [List.length_nil] at hle; omega
    rcases hi.out _ hw with hy0 | ⟨b2, o2, C2, T2, fz2, rfl, hb2, hc2⟩
    · subst hy0; simp at h0
    have hta : tailA (some ⟨b, 0, none⟩) cap j 1 = some ⟨b, j, none⟩ := by
      unfold tailA; rw [if_neg (by omega)]; show some ((⟨b, 0, none⟩ : Addr).add (j * 1)) = _; rw [Nat.mul_one]; unfold Addr.add; split <;> simp_all
    rw [hta] at hex
    have hal := E.all_len ys
    have hax := E.all_len xs
    rw [hm] at hal hax q3
    have hr := run_copy_row (P := P) w t t ty E.T b j (xs.length - j) d ⟨b2, o2, none⟩ ys.length cap2 (E.all xs ++ sp).toArray E.T (E.all ys) hu hsz hb (by rw [hal]; show ys.length * 1 = min ys.length (xs.length - j); omega) (fun k v hk => by
      have h1 := hc2 k v hk
      have h2 : (⟨b2, o2, none⟩ : Addr).add k = ⟨b2, o2 + k, none⟩ := by unfold Addr.add; split <;> simp_all
      rw [h2, cell?_eq]; simp [cellH, hb2, h1]) (by rw [hal]; simp [hax]; omega) (E.all_one _)
    refine ⟨_, _, _, hex _ _ hr, ⟨?_, rfl⟩, rfl, ?_⟩
    · rw [hal, Nat.mul_one]; rfl
    · have e3 : ((E.all xs ++ sp).toArray.toList.take j ++ E.all ys ++ (E.all xs ++ sp).toArray.toList.drop (j + (E.all ys).length)) = E.all (spl xs j ys) ++ sp := by
        rw [all_spl hm hle]
        simp only [hal]
        rw [List.take_append_of_le_length (by rw [hax]; omega), List.drop_append_of_le_length (by rw [hax]; omega)]
        simp
      rw [e3]
      exact sl_row hh hw rfl hb (.inr (by omega)) (by rw [spl_len hle]; exact q1) q2 (by rw [spl_len hle, hm]; exact q3)

/-- append(s, make([]T, k)...), of elements of one cell. -/
theorem Eff.appendZ {α : Type} {E : Enc α} (x0 : α) {t tn by_ : Nat} {e : TypeId} {z : Value} {kn : IntKind} [ha : SlT P t e 1 by_ z] {s x : Operand} {a : Option Addr} {n cap k : Nat} {i : Int} {xs : List α} {f : Asn → List Asn}
    (htn : P.underlying tn = some (.int kn)) (hs : ev F s = some (.slice a n cap)) (hx : ev F x = some (.int .i64 i)) (hik : i = (k : Int)) [hh : SlH E L a cap xs f] (hT : E.T = e) (hm : E.m = 1) (hz : z.cells.toList = E.enc x0) (hn : n = xs.length)
    (h0 : 0 < k) (hb : (xs.length + k) * by_ ≤ 140737488355328) (hb2 : xs.length + k ≤ 140737488355328) :
    Eff P F L ⟨dst, .call ⟨.builtin .append, #[s, x], #[t, tn]⟩, ty, pos, aft, gd⟩ (fun u M => ∃ a' cap', u = .slice a' (xs.length + k) cap' ∧ M = f (sl E a' cap' (xs ++ List.replicate k x0))) := Eff.of_run fun ρ w hρ hw => by
  obtain ⟨i', hu, hi', hz', hi1, rfl, hzc⟩ := sltB_spec ha.out
  subst hT; subst hn; subst hik
  have hex : ∀ v w', (Builtin.append_ #[t, tn] ty #[.slice a xs.length cap, .int .i64 (k : Int)]).run P w = .ok v w' → (execOp ρ ⟨dst, .call ⟨.builtin .append, #[s, x], #[t, tn]⟩, ty, pos, aft, gd⟩).run P w = .ok (.value v) w' := by
    intro v w' h
    unfold execOp
    simp only [resolve, invoke, builtin, Sem.run_bind, Sem.run_pure, Result.andThen_ok, List.map_toArray, List.map_cons, List.map_nil, hρ _ _ hs, hρ _ _ hx, h]
  have hax := E.all_len xs
  rw [hm] at hax
  have hz1 : z.cells.size = 1 := by rw [← Array.length_toList, hz, E.len, hm]
  have hz2 : ∀ q, (Builtin.zeroCells z.cells q).toList = E.all (List.replicate q x0) := fun q => by
    have hc : z.cells = #[z.cells[0]] := by
      apply Array.ext
      · simp [hz1]
      · intro i h1 h2; simp at h2; subst h2; rfl
    have he : E.enc x0 = [z.cells[0]] := by rw [← hz]; conv => lhs; rw [hc]
    unfold Builtin.zeroCells
    rw [hz1, Nat.mul_one]
    apply List.ext_getElem
    · rw [E.all_len, hm]; simp
    · intro i h1 h2
      have hall : E.all (List.replicate q x0) = List.replicate q z.cells[0] := by
        unfold Enc.all
        rw [List.flatMap_replicate, he]
        clear h1 h2
        induction q with
        | zero => simp
        | succ q ih => rw [List.replicate_succ, List.flatten_cons, ih, List.replicate_succ]; rfl
      simp only [hall, List.getElem_replicate]
      simp [Nat.mod_one, getElem!_pos, hz1]
  have hfull : ∀ q, ((E.all xs ++ E.all (List.replicate k x0)) ++ E.all (List.replicate q x0)) = E.all (xs ++ List.replicate k x0) ++ E.all (List.replicate q x0) := fun q => by rw [E.all_append]
  by_cases hroom : xs.length + k ≤ cap
  · rcases hh.own hw with ⟨_, hc0, _⟩ | ⟨b, sp, rfl, q1, q2, q3, hbk⟩
    · omega
    rw [hm, Nat.mul_one] at q3
    have hzl := E.all_len (List.replicate k x0)
    rw [hm, List.length_replicate, Nat.mul_one] at hzl
    have hst := run_storeCells_at (P := P) b xs.length E.T (E.all (List.replicate k x0)) 0 (E.all xs ++ sp).toArray w hbk (by simp [hax, hzl]; omega) (E.all_one _)
    have hw2 : IntKind.i64.wrap (k : Int) = k := by rw [IntKind.wrap_i64]; omega
    have hkb : k * i'.bytes ≤ 140737488355328 := Nat.le_trans (Nat.mul_le_mul_right _ (by omega)) hb
    have h48i : ¬ (281474976710656 < (k : Int) * (i'.bytes : Int)) := by rw [← Int.natCast_mul]; omega
    have hr : (Builtin.append_ #[t, tn] ty #[.slice (some ⟨b, 0, none⟩) xs.length cap, .int .i64 (k : Int)]).run P w = .ok (.slice (some ⟨b, 0, none⟩) (xs.length + k) cap) (w.setRow b ((E.all xs ++ sp).take xs.length ++ E.all (List.replicate k x0) ++ (E.all xs ++ sp).drop (xs.length + k)).toArray) := by
      have hk : k ≠ 0 := by omega
      have hneg : ¬ ((k : Int) < 0) := by omega
      have hstz : (storeCells ⟨b, xs.length, none⟩ (Builtin.zeroCells z.cells k).toList).run P w = .ok () (w.setRow b ((E.all xs ++ sp).take xs.length ++ E.all (List.replicate k x0) ++ (E.all xs ++ sp).drop (xs.length + k)).toArray) := by
        rw [hz2]; rw [hst, hzl]; simp
      have ha2 : (⟨b, 0, none⟩ : Addr).add xs.length = ⟨b, xs.length, none⟩ := by unfold Addr.add; split <;> simp_all
      simp [Builtin.append_, run_underlying hu, run_underlying htn, sizeOf, typeInfo, zeroValue, hi', hz', hi1, asInt, asIntOf, hw2, hneg, hk, h48i, hroom, ha2, hstz]
    refine ⟨_, _, _, hex _ _ hr, ⟨_, _, rfl, rfl⟩, rfl, ?_⟩
    have e3 : ((E.all xs ++ sp).take xs.length ++ E.all (List.replicate k x0) ++ (E.all xs ++ sp).drop (xs.length + k)) = E.all (xs ++ List.replicate k x0) ++ sp.drop k := by
      rw [E.all_append, List.take_append_of_le_length (by omega), List.take_of_length_le (by omega), List.drop_append, List.drop_of_length_le (by omega), List.nil_append]
      congr 2; omega
    rw [e3]
    exact sl_row hh hw rfl hbk (.inr (by omega)) (by simp; omega) q2 (by rw [hm, List.length_drop, q3]; simp; omega)
  · have hold : (Builtin.firstCells i'.size xs.length (.slice a xs.length cap)).run P w.drew = .ok (E.all xs).toArray w.drew := by
      rcases hh.own hw with ⟨ha0, hc0, hx0⟩ | ⟨b, sp, ha0, q1, q2, q3, hbk⟩
      · subst ha0; subst hx0; exact run_firstCells_none w.drew _ _ _ _
      · subst ha0
        refine run_firstCells_some w.drew i'.size xs.length ⟨b, 0, none⟩ xs.length cap (E.all xs) (by rw [hax, hi1]) fun j u hj => ?_
        have h2 : (⟨b, 0, none⟩ : Addr).add j = ⟨b, j, none⟩ := by unfold Addr.add; split <;> simp_all
        have hlt := (List.getElem?_eq_some_iff.1 hj).1
        rw [h2]
        have : w.cell? ⟨b, j, none⟩ = some u := by
          rw [cell?_eq]
          simp only [cellH, hbk, Option.isSome_none, Bool.false_eq_true, if_false, List.getElem?_toArray]
          rw [List.getElem?_append_left hlt]; exact hj
        exact this
    have h63 : ((xs.length + k : Nat) : Int) ≤ 9223372036854775807 := by omega
    have hkb : k * i'.bytes ≤ 140737488355328 := Nat.le_trans (Nat.mul_le_mul_right _ (by omega)) hb
    have hr := Lib.run_append_grow_zeros (P := P) w t tn ty E.T i' z .i64 kn hu htn hi' hz' a xs.length cap (E.all xs) hold k h0 (by omega) (by omega) h63 (by omega) (growslice_fits (by omega) hb)
    have hcm := grownCap_le_maxLen w (xs.length + k) cap E.T (by unfold maxLen; omega)
    have hcl : xs.length + k ≤ grownCap w (xs.length + k) cap E.T := by unfold grownCap Question.cut; simp
    refine ⟨_, _, _, hex _ _ hr, ⟨_, _, rfl, rfl⟩, rfl, ?_⟩
    have hpush : ∀ o, hp (w.drew.alloc o) = Hp.upd (hp w) w.heap.size o := fun o => hp_push w o
    rw [hpush]
    have hsz := hp_size w
    refine Sat.frameRep (hh.out _) hw fun h1 hA hl1 => ?_
    refine ⟨fun z => if z = w.heap.size then some (.cells (E.all (xs ++ List.replicate k x0) ++ E.all (List.replicate (grownCap w (xs.length + k) cap E.T - (xs.length + k)) x0)).toArray E.T (0, 0)) else none, sl_iff.2 (.inr ⟨w.heap.size, _, rfl, by simpa using hcl, hcm, ?_, if_pos rfl⟩), ?_, ?_, ?_⟩
    · rw [E.all_len, List.length_replicate]; simp
    · intro q o hq
      dsimp only at hq
      unfold Hp.upd
      by_cases e : q = w.heap.size
      · rw [if_pos e] at hq ⊢
        cases hq
        congr 2
        apply Array.ext'
        simp only [Array.toList_append, hz2, E.all_append]
      · rw [if_neg e] at hq; cases hq
    · intro q hq
      dsimp only at hq
      by_cases e : q = w.heap.size
      · right; rw [e]; exact hsz
      · rw [if_neg e] at hq; exact absurd rfl hq
    · intro q o hq hno
      unfold Hp.upd
      by_cases e : q = w.heap.size
      · rw [e, hsz] at hq; cases hq
      · rw [if_neg e]; exact hq
end
end Go.KK

/- The text K32. -/
/-!
  Bytes as strings; what is only read; assertions in a list; slices of slices that are only read.
-/
set_option linter.unusedVariables false
set_option linter.unusedSimpArgs false
set_option linter.unusedSectionVars false
namespace Go.KK
section
variable {P : Program} {F : Fr} {L : List Asn} {dst : Option Tmp} {ty : TypeId} {pos : String} {aft : Array Edge} {gd : Option (Nat × Bool)}
def strB (xs : List UInt8) : ByteArray := ⟨xs.toArray⟩
theorem strB_inj {xs ys : List UInt8} : strB xs = strB ys ↔ xs = ys := by
  constructor
  · intro h
    have := congrArg (fun b => b.data.toList) h
    simpa [strB] using this
  · intro h; rw [h]
theorem Pur.convBS {E : Enc UInt8} {s t e : Nat} {x : Operand} {a : Option Addr} {n cap : Nat} {xs : List UInt8} (hs : P.underlying s = some (.slice e)) (he : P.underlying e = some (.int .u8)) (ht : P.underlying t = some .string)
    (hx : ev F x = some (.slice a n cap)) [hi : SlIn E L a xs] (hn : n = xs.length) (hm : E.m = 1) (hE : ∀ b, E.enc b = [.int .u8 (b.toNat : Int)]) :
    Pur P F L ⟨dst, .convert s t x, ty, pos, aft, gd⟩ (.string (strB xs)) := fun ρ w hρ hw => by
  have hex : execOp ρ ⟨dst, .convert s t x, ty, pos, aft, gd⟩ = (do pure (.value (← convert s t (ρ x)))) := rfl
  subst hn
  have hr : (convert s t (.slice a xs.length cap)).run P w = .ok (.string (strB xs)) w := by
    rcases hi.out _ hw with h0 | ⟨b, o, C, T, fz, rfl, hb, hc⟩
    · subst h0
      rw [show ([] : List UInt8).length = 0 from rfl, run_convert_bytes_string w s t e _ 0 cap hs he ht]
      cases a <;> simp [Conv.bytesToString, loadCells]
      all_goals rfl
    · have h1 := run_convert_bytes_back (P := P) w s t e ⟨b, o, none⟩ cap xs hs he ht (fun j hj => by
        have h2 : (⟨b, o, none⟩ : Addr).add j = ⟨b, o + j, none⟩ := by unfold Addr.add; split <;> simp_all
        have h3 := E.all_get xs j 0 xs[j] (List.getElem?_eq_getElem hj) (by omega)
        rw [hm, hE, Nat.mul_one, Nat.add_zero] at h3
        rw [h2, cell?_eq]; simp [cellH, hb, hc _ _ h3])
      exact h1
  rw [hex, Sem.run_bind, hρ _ _ hx, hr]; rfl

/-- What is only read from now on. -/
@[irreducible] def rd {α : Type} (E : Enc α) (a : Option Addr) (xs : List α) : Asn := fun h => slR E h a xs
instance SlIn.rd {α : Type} {E : Enc α} {L : List Asn} {a : Option Addr} {xs : List α} : SlIn E (rd E a xs :: L) a xs := ⟨fun h hs => by
  obtain ⟨h1, l, s⟩ := hs.head
  have s2 : slR E h1 a xs := by unfold KK.rd at s; exact s
  exact s2.mono l⟩
theorem Eff.convBB {α : Type} {E : Enc α} {t e : Nat} {x : Operand} {b n cap : Nat} {xs : List α} {f : Asn → List Asn} (ht : P.underlying t = some (.slice e)) (he : P.underlying e = some (.int .u8))
    (hx : ev F x = some (.slice (some ⟨b, 0, none⟩) n cap)) [hh : SlH E L (some ⟨b, 0, none⟩) cap xs f] :
    Eff P F L ⟨dst, .convert t t x, ty, pos, aft, gd⟩ (fun u M => u = .slice (some ⟨b, 0, none⟩) n cap ∧ M = f (rd E (some ⟨b, 0, none⟩) xs)) := Eff.of_run fun ρ w hρ hw => by
  have hex : execOp ρ ⟨dst, .convert t t x, ty, pos, aft, gd⟩ = (do pure (.value (← convert t t (ρ x)))) := rfl
  rcases hh.own hw with ⟨h0, _, _⟩ | ⟨b', sp, hb', q1, q2, q3, hbk⟩
  · cases h0
  simp only [Option.some.injEq, Addr.mk.injEq, and_true] at hb'
  subst hb'
  have hbw : w.heap[b]? = some (.cells (E.all xs ++ sp).toArray E.T (0, 0)) := hbk
  have hsh : w.shape? b = some (E.T, (E.all xs ++ sp).toArray.size) := by unfold World.shape?; rw [hbw]
  have hr : (convert t t (.slice (some ⟨b, 0, none⟩) n cap)).run P w = .ok (.slice (some ⟨b, 0, none⟩) n cap) (w.freeze ⟨b, (E.all xs ++ sp).toArray.size, none⟩ 1) := by
    simp only [convert, Sem.run_bind, run_underlying ht, run_underlying he, Result.andThen_ok, beq_self_eq_true, markStringish, run_shape, hsh, run_freeze, Sem.run_pure]
  refine ⟨_, w.freeze ⟨b, (E.all xs ++ sp).toArray.size, none⟩ 1, _, ?_, ⟨rfl, rfl⟩, ?_, ?_⟩
  · rw [hex, Sem.run_bind, hρ _ _ hx, hr]; rfl
  · unfold World.freeze; rw [if_neg (by decide)]; rfl
  · have hbl : b < w.heap.size := (Array.getElem?_eq_some_iff.1 hbw).1
    obtain ⟨fz, hfz⟩ : ∃ fz, hp (w.freeze ⟨b, (E.all xs ++ sp).toArray.size, none⟩ 1) = Hp.upd (hp w) b (.cells (E.all xs ++ sp).toArray E.T fz) := by
      refine ⟨((E.all xs ++ sp).toArray.size, (E.all xs ++ sp).toArray.size + 1), ?_⟩
      funext z
      unfold World.freeze
      rw [if_neg (by decide)]
      unfold hp Hp.upd
      simp only [Array.getElem?_modify]
      by_cases e : z = b
      · subst e; simp [hbw]
      · rw [if_neg (fun h => e h.symm), if_neg e]
    rw [hfz]
    refine Sat.frameRep (hh.out _) hw fun h1 hA hl1 => ?_
    have hb1 : h1 b = some (.cells (E.all xs ++ sp).toArray E.T (0, 0)) := by
      rcases sl_iff.1 hA with ⟨h', _, _⟩ | ⟨b', spare, h', _, _, _, hb'⟩
      · cases h'
      · simp only [Option.some.injEq, Addr.mk.injEq, and_true] at h'
        subst h'
        have := hl1 _ _ hb'
        rw [hbk] at this
        rw [hb']; exact this.symm
    refine ⟨Hp.upd h1 b (.cells (E.all xs ++ sp).toArray E.T fz), ?_, Hp.upd_le hl1, ?_, ?_⟩
    · unfold rd
      refine .inr ⟨b, 0, (E.all xs ++ sp).toArray, E.T, fz, rfl, by simp [Hp.upd], fun j v hj => ?_⟩
      simp only [List.getElem?_toArray, Nat.zero_add]
      rw [List.getElem?_append_left (List.getElem?_eq_some_iff.1 hj).1]; exact hj
    · intro z hz
      unfold Hp.upd at hz
      by_cases e : z = b
      · left; rw [e, hb1]; simp
      · left; simpa [e] using hz
    · intro z o hz hno
      unfold Hp.upd
      by_cases e : z = b
      · rw [e, hb1] at hno; cases hno
      · rw [if_neg e]; exact hz
end

/-! Assertions in a list. -/
theorem star_open {As : List Asn} {i : Nat} {A : Asn} {L : List Asn} {h : Hp} (hi : As[i]? = some A) (s : Sat h (star As :: L)) : Sat h (A :: star (As.eraseIdx i) :: L) := by
  have s1 := Sat.star.1 s
  have s2 := s1.perm ((perm_erase hi).append_right L)
  obtain ⟨k1, k2, d, l1, l2, a, s3⟩ := s2
  exact ⟨k1, k2, d, l1, l2, a, Sat.star.2 s3⟩
theorem star_shut {As : List Asn} {i : Nat} {A B : Asn} {L : List Asn} {h : Hp} (hi : As[i]? = some A) (s : Sat h (B :: star (As.eraseIdx i) :: L)) : Sat h (star (As.set i B) :: L) := by
  obtain ⟨k1, k2, d, l1, l2, a, s3⟩ := s
  have s4 := Sat.star.1 s3
  refine Sat.star.2 (Sat.perm ((perm_set (y := B) hi).append_right L).symm ?_)
  exact ⟨k1, k2, d, l1, l2, a, s4⟩
theorem star_snoc {As : List Asn} {B : Asn} {L : List Asn} {h : Hp} (s : Sat h (B :: star As :: L)) : Sat h (star (As ++ [B]) :: L) := by
  obtain ⟨k1, k2, d, l1, l2, a, s3⟩ := s
  have s4 := Sat.star.1 s3
  refine Sat.star.2 (Sat.perm (L := B :: (As ++ L)) ?_ ⟨k1, k2, d, l1, l2, a, s4⟩)
  rw [List.append_assoc]
  exact (List.perm_middle (l₁ := As) (a := B) (l₂ := L)).symm
theorem star_nil {L : List Asn} {h : Hp} (s : Sat h L) : Sat h (star [] :: L) := Sat.star.2 s
class StarP (As : List Asn) (L : List Asn) (R : outParam (List Asn)) : Prop where out : L.Perm (star As :: R)
instance StarP.head {As : List Asn} {L : List Asn} : StarP As (star As :: L) L := ⟨.refl _⟩
instance (priority := 900) StarP.tail {As : List Asn} {B : Asn} {L R : List Asn} [h : StarP As L R] : StarP As (B :: L) (B :: R) := ⟨(h.out.cons B).trans (.swap _ _ _)⟩

/-! Slices of slices that are only read. -/
class RowsR {α : outParam Type} (E : outParam (Enc α)) (L : List Asn) (hs : List Hdr) (xss : outParam (List (List α))) : Prop where
  out : ∀ h, Sat h L → hs.map (·.n) = xss.map (·.length) ∧ ∀ (i : Nat) (hd : Hdr) (xs : List α), hs[i]? = some hd → xss[i]? = some xs → slR E h hd.a xs ∧ (hd.a = none → hd.n = 0 ∧ hd.cap = 0) ∧ hd.n ≤ hd.cap
instance (priority := 900) RowsR.tail {α : Type} {E : Enc α} {A : Asn} {L : List Asn} {hs : List Hdr} {xss : List (List α)} [hh : RowsR E L hs xss] : RowsR E (A :: L) hs xss := ⟨fun h s => hh.out h s.tail⟩
theorem RowsR.row {α : Type} {E : Enc α} {L : List Asn} {hs : List Hdr} {xss : List (List α)} (hh : RowsR E L hs xss) {i : Nat} {hd : Hdr} {xs : List α} (h1 : hs[i]? = some hd) (h2 : xss[i]? = some xs) : SlIn E L hd.a xs := ⟨fun h s => ((hh.out h s).2 i hd xs h1 h2).1⟩
theorem RowsR.len {α : Type} {E : Enc α} {L : List Asn} {hs : List Hdr} {xss : List (List α)} [hh : RowsR E L hs xss] {h : Hp} (s : Sat h L) : hs.map (·.n) = xss.map (·.length) := (hh.out h s).1
theorem RowsR.fit {α : Type} {E : Enc α} {L : List Asn} {hs : List Hdr} {xss : List (List α)} [hh : RowsR E L hs xss] {h : Hp} (s : Sat h L) {i : Nat} {hd : Hdr} {xs : List α} (h1 : hs[i]? = some hd) (h2 : xss[i]? = some xs) : (hd.a = none → hd.n = 0 ∧ hd.cap = 0) ∧ hd.n ≤ hd.cap := ((hh.out h s).2 i hd xs h1 h2).2
class InpR {α : outParam Type} (E : outParam (Enc α)) (h0 : Hp) (hs : List Hdr) (xss : outParam (List (List α))) : Prop where
  out : hs.map (·.n) = xss.map (·.length) ∧ ∀ (i : Nat) (hd : Hdr) (xs : List α), hs[i]? = some hd → xss[i]? = some xs → slR E h0 hd.a xs ∧ (hd.a = none → hd.n = 0 ∧ hd.cap = 0) ∧ hd.n ≤ hd.cap
instance InpR.rowsR {α : Type} {E : Enc α} {h0 : Hp} {L : List Asn} {hs : List Hdr} {xss : List (List α)} [hh : InpR E h0 hs xss] : RowsR E (inp h0 :: L) hs xss := ⟨fun h s => by
  obtain ⟨h1, l, a⟩ := s.head
  refine ⟨hh.out.1, fun i hd xs e1 e2 => ?_⟩
  obtain ⟨g1, g2⟩ := hh.out.2 i hd xs e1 e2
  exact ⟨g1.mono (Hp.le_trans (inp_iff.1 a) l), g2⟩⟩
end Go.KK

/- The text K33. -/
/-!
  Slice arguments of whatever elements; of bytes; of slices.
-/
set_option linter.unusedVariables false
set_option linter.unusedSimpArgs false
set_option linter.unusedSectionVars false
namespace Go.KK
open Go.ChangeShapes Go.WideShapes Go.ChangeAt Go.RowKit
section
open Go.Deep
variable {H : Type} {enc : TypeId × Value → H} {P : Program} {w : World} {base : Nat} {spare : Nat → Bool} {held : Bool}
theorem open_gen {α : Type} [Inhabited α] (E : Enc α) {t e : TypeId} {v : Value} {d : DataW H} {ps : List MemPlace} (ht : P.underlying t = some (.slice e)) (hC : P.cellsOf e = E.m) (hm : 0 < E.m)
    (hel : ∀ (fuel : Nat) (cs : List Value) (x : DataW H × List MemPlace), DataW.trod enc P w base spare held fuel e cs = some x → ∃ g : α, E.enc g = cs)
    (hv : ∃ a len cap, v = .slice a len cap) (h : DataW.Trod enc P w base spare held t v d ps) : ∃ (a : Option Addr) (xs : List α) (cap : Nat), v = .slice a xs.length cap ∧ xs.length ≤ maxLen ∧ xs.length ≤ cap ∧ (a = none → xs = [] ∧ cap = 0) ∧ slR E (hp w) a xs ∧
      ∀ x ∈ xs, ∃ (fuel : Nat) (y : DataW H × List MemPlace), DataW.trod enc P w base spare held fuel e (E.enc x) = some y := by
  obtain ⟨fuel, hf⟩ := h
  obtain ⟨a0, len0, cap0, rfl⟩ := hv
  rcases open_slice ht hf with h0 | ⟨a, len, cap, m, n, D, Pl, h0, hb, h1, h2, hmm, hx, hi⟩
  · simp [Value.cells] at h0
    obtain ⟨⟨rfl, rfl, rfl⟩, _⟩ := h0
    exact ⟨none, [], 0, rfl, by unfold maxLen; simp, by simp, fun _ => ⟨rfl, rfl⟩, .inl rfl, by simp⟩
  · simp [Value.cells] at h0
    obtain ⟨rfl, rfl, rfl⟩ := h0
    have hex : ∀ i, i < len0 → ∃ x : α, (∀ k u, k < E.m → (E.enc x)[k]? = some u → w.cell? (a.add (i * E.m + k)) = some u) ∧ DataW.trod enc P w base spare held n e (E.enc x) = some (D i, Pl i) := by
      intro i hil
      obtain ⟨cs', hc, ht'⟩ := hi i (by rw [hmm]; split <;> omega)
      rw [hC] at hc
      obtain ⟨_, hcl, hat⟩ := World.cells?_some hc
      obtain ⟨g, hg⟩ := hel _ _ _ ht'
      refine ⟨g, fun k u hk hu => ?_, by rw [hg]; exact ht'⟩
      have := hat k hk
      rw [Go.Deep.add_add] at this
      rw [this, ← hg, hu]
    obtain ⟨F, hF⟩ := choose_lt hex
    refine ⟨some a, (List.range len0).map F, cap0, by simp, by simp; omega, by simp; omega, (fun h => by cases h), slR_of hm ?_, fun x hx => ?_⟩
    · intro i x hx k u hk hu
      rw [List.getElem?_map] at hx
      by_cases hil : i < len0
      · rw [List.getElem?_range hil] at hx
        simp only [Option.map_some, Option.some.injEq] at hx
        subst hx
        exact (hF i hil).1 k u hk hu
      · rw [List.getElem?_eq_none (by simp; omega)] at hx; cases hx
    · obtain ⟨i, hi', rfl⟩ := List.mem_map.1 hx
      exact ⟨n, _, (hF i (List.mem_range.1 hi')).2⟩
theorem trod_u8 {t fuel : Nat} {cs : List Value} {x : DataW H × List MemPlace} (ht : P.underlying t = some (.int .u8)) (h : DataW.trod enc P w base spare held fuel t cs = some x) : ∃ g : UInt8, [Value.int .u8 (g.toNat : Int)] = cs := by
  obtain ⟨n, e, _, hwf⟩ := DataW.trod_int ht h
  refine ⟨UInt8.ofNat n.toNat, ?_⟩
  rw [e]
  have h2 : 0 ≤ n ∧ n ≤ 255 := by
    simp only [Lit.wf] at hwf
    have a1 : IntKind.u8.min = 0 := by decide
    have a2 : IntKind.u8.max = 255 := by decide
    rw [a1, a2] at hwf
    simp at hwf
    omega
  have h3 : (UInt8.ofNat n.toNat).toNat = n.toNat := by rw [UInt8.toNat_ofNat']; omega
  rw [h3, Int.toNat_of_nonneg h2.1]
theorem trod_hdr {t e fuel : Nat} {cs : List Value} {x : DataW H × List MemPlace} (T : TypeId) (ht : P.underlying t = some (.slice e)) (h : DataW.trod enc P w base spare held fuel t cs = some x) : ∃ g : Hdr, (hdrE T).enc g = cs := by
  rcases open_slice ht h with h0 | ⟨a, len, cap, m, n, D, Pl, h0, _⟩
  · exact ⟨⟨none, 0, 0⟩, h0.1.symm⟩
  · exact ⟨⟨some a, len, cap⟩, h0.symm⟩
/-- A slice of slices. -/
theorem open_rows {α : Type} [Inhabited α] (E : Enc α) (T : TypeId) {t e e2 : TypeId} {v : Value} {d : DataW H} {ps : List MemPlace} (ht : P.underlying t = some (.slice e)) (he : P.underlying e = some (.slice e2)) (hC1 : P.cellsOf e = 1) (hC : P.cellsOf e2 = E.m) (hm : 0 < E.m)
    (hel : ∀ (fuel : Nat) (cs : List Value) (x : DataW H × List MemPlace), DataW.trod enc P w base spare held fuel e2 cs = some x → ∃ g : α, E.enc g = cs)
    (hv : ∃ a len cap, v = .slice a len cap) (h : DataW.Trod enc P w base spare held t v d ps) : ∃ (a : Option Addr) (hs : List Hdr) (cap : Nat) (xss : List (List α)), v = .slice a hs.length cap ∧ hs.length ≤ maxLen ∧ hs.length ≤ cap ∧ (a = none → hs = [] ∧ cap = 0) ∧ slR (hdrE T) (hp w) a hs ∧
      InpR E (hp w) hs xss ∧ ∀ xs ∈ xss, xs.length ≤ maxLen := by
  obtain ⟨a, hs, cap, h1, h2, h3, h4, h5, h6⟩ := open_gen (hdrE T) ht hC1 (by show 0 < 1; omega) (fun fuel cs x hx => trod_hdr T he hx) hv h
  have hex : ∀ i, i < hs.length → ∃ xs : List α, ∀ hd, hs[i]? = some hd → hd.n = xs.length ∧ slR E (hp w) hd.a xs ∧ (hd.a = none → hd.n = 0 ∧ hd.cap = 0) ∧ hd.n ≤ hd.cap ∧ xs.length ≤ maxLen := by
    intro i hi
    obtain ⟨fuel, y, hy⟩ := h6 hs[i] (List.getElem_mem hi)
    have hT : DataW.Trod enc P w base spare held e (.slice hs[i].a hs[i].n hs[i].cap) y.1 y.2 := ⟨fuel, hy⟩
    obtain ⟨a', xs, cap', g1, g2, g3, g4, g5, _⟩ := open_gen E he hC hm hel ⟨_, _, _, rfl⟩ hT
    refine ⟨xs, fun hd hhd => ?_⟩
    rw [List.getElem?_eq_getElem hi] at hhd
    cases hhd
    simp only [Value.slice.injEq] at g1
    obtain ⟨rfl, g6, rfl⟩ := g1
    exact ⟨g6, g5, fun e => ⟨by rw [g6, (g4 e).1]; rfl, (g4 e).2⟩, by omega, g2⟩
  obtain ⟨F, hF⟩ := choose_lt hex
  refine ⟨a, hs, cap, (List.range hs.length).map F, h1, h2, h3, h4, h5, ⟨?_, fun i hd xs e1 e2 => ?_⟩, fun xs hx => ?_⟩
  · apply List.ext_getElem?
    intro i
    rw [List.getElem?_map, List.getElem?_map, List.getElem?_map]
    by_cases hi : i < hs.length
    · rw [List.getElem?_range hi, List.getElem?_eq_getElem hi]
      exact congrArg some (hF i hi _ (List.getElem?_eq_getElem hi)).1
    · rw [List.getElem?_eq_none (by omega), List.getElem?_eq_none (by simp; omega)]; rfl
  · have hi : i < hs.length := (List.getElem?_eq_some_iff.1 e1).1
    rw [List.getElem?_map, List.getElem?_range hi] at e2
    cases e2
    have := hF i hi hd e1
    exact ⟨this.2.1, this.2.2.1, this.2.2.2.1⟩
  · obtain ⟨i, hi, rfl⟩ := List.mem_map.1 hx
    have hil := List.mem_range.1 hi
    exact (hF i hil _ (List.getElem?_eq_getElem hil)).2.2.2.2
end
end Go.KK

/- The text K34. -/
/-!
  A slice argument of structs of which one field is a slice and the others are ints, strings and bools.
-/
set_option linter.unusedVariables false
set_option linter.unusedSimpArgs false
set_option linter.unusedSectionVars false
namespace Go.KK
open Go.ChangeShapes Go.WideShapes Go.ChangeAt Go.RowKit
section
open Go.Deep
variable {H : Type} {enc : TypeId × Value → H} {P : Program} {w : World} {base : Nat} {spare : Nat → Bool} {held : Bool}
theorem open_recs_row {α β : Type} [Inhabited α] [Inhabited β] (E : Enc α) (hd : α → Hdr) (E2 : Enc β) (kr : Nat) {t e e2 tr : TypeId} {fs : Array Field} {v : Value} {d : DataW H} {ps : List MemPlace} (ht : P.underlying t = some (.slice e)) (he : P.underlying e = some (.struct fs))
    (hone : oneCellFields P fs = true) (hC : P.cellsOf e = fs.size) (hm : E.m = fs.size) (hpos : 0 < fs.size) {ks : List Nat}
    (hint : ∀ j f, fs[j]? = some f → (j = kr → f.type = tr) ∧ (j ≠ kr → ∃ κ, ks[j]? = some κ ∧ kindB P f.type = some κ)) (hkl : ks.length ≤ fs.size) (hkr : kr < fs.size)
    (htr : P.underlying tr = some (.slice e2)) (hC2 : P.cellsOf e2 = E2.m) (hm2 : 0 < E2.m)
    (hel : ∀ (fuel : Nat) (cs : List Value) (x : DataW H × List MemPlace), DataW.trod enc P w base spare held fuel e2 cs = some x → ∃ g : β, E2.enc g = cs)
    (hmk : ∀ g : Nat → Value, (∀ k κ, k ≠ kr → ks[k]? = some κ → isV κ (g k)) → ∀ h : Hdr, g kr = .slice h.a h.n h.cap → ∃ x : α, hd x = h ∧ ∀ k u, k < fs.size → (E.enc x)[k]? = some u → u = g k)
    (hv : ∃ a len cap, v = .slice a len cap) (h : DataW.Trod enc P w base spare held t v d ps) : ∃ (a : Option Addr) (xs : List α) (cap : Nat) (yss : List (List β)), v = .slice a xs.length cap ∧ xs.length ≤ maxLen ∧ xs.length ≤ cap ∧ (a = none → xs = [] ∧ cap = 0) ∧ slR E (hp w) a xs ∧
      InpR E2 (hp w) (xs.map hd) yss ∧ ∀ ys ∈ yss, ys.length ≤ maxLen := by
  obtain ⟨fuel, hf⟩ := h
  obtain ⟨a0, len0, cap0, rfl⟩ := hv
  rcases open_slice_fields ht he hone hC hf with h0 | ⟨a, len, cap, h0, h1, h2, hi⟩
  · simp [Value.cells] at h0
    obtain ⟨rfl, rfl, rfl⟩ := h0
    exact ⟨none, [], 0, [], rfl, by unfold maxLen; simp, by simp, fun _ => ⟨rfl, rfl⟩, .inl rfl, ⟨rfl, fun i hd xs e => by simp at e⟩, by simp⟩
  · simp [Value.cells] at h0
    obtain ⟨rfl, rfl, rfl⟩ := h0
    have hex : ∀ i, i < len0 → ∃ x : α × List β, (∀ k u, k < E.m → (E.enc x.1)[k]? = some u → w.cell? (a.add (i * E.m + k)) = some u) ∧ (hd x.1).n = x.2.length ∧ slR E2 (hp w) (hd x.1).a x.2 ∧ ((hd x.1).a = none → (hd x.1).n = 0 ∧ (hd x.1).cap = 0) ∧ (hd x.1).n ≤ (hd x.1).cap ∧ x.2.length ≤ maxLen := by
      intro i hil
      obtain ⟨n, hn⟩ := hi i hil
      have hg : ∀ k, k < fs.size → ∃ z : Value, w.cell? (a.add (i * fs.size + k)) = some z ∧ (k ≠ kr → ∀ κ, ks[k]? = some κ → isV κ z) ∧ (k = kr → ∃ y, DataW.trod enc P w base spare held n tr [z] = some y) := by
        intro k hk
        obtain ⟨v, y, c1, c2⟩ := hn k fs[k] (Array.getElem?_eq_getElem hk)
        obtain ⟨i1, i2⟩ := hint k _ (Array.getElem?_eq_getElem hk)
        refine ⟨v, c1, fun hne κ' h' => ?_, fun e => ⟨y, by rw [← i1 e]; exact c2⟩⟩
        obtain ⟨κ, k1, k2⟩ := i2 hne
        rw [k1] at h'; cases h'; exact kind_cell k2 c2
      obtain ⟨g, hg⟩ := choose_lt hg
      obtain ⟨y, hy⟩ := (hg kr hkr).2.2 rfl
      obtain ⟨h9, e9⟩ := trod_hdr tr htr hy
      have e8 : g kr = .slice h9.a h9.n h9.cap := by
        have : [Value.slice h9.a h9.n h9.cap] = [g kr] := e9
        simpa using this.symm
      rw [e8] at hy
      have hT : DataW.Trod enc P w base spare held tr (.slice h9.a h9.n h9.cap) y.1 y.2 := ⟨n, hy⟩
      obtain ⟨a', ys, cap', g1, g2, g3, g4, g5, _⟩ := open_gen E2 htr hC2 hm2 hel ⟨_, _, _, rfl⟩ hT
      obtain ⟨x, hxh, hx⟩ := hmk g (fun k κ hne hk => by
        by_cases hkl : k < fs.size
        · exact (hg k hkl).2.1 hne κ hk
        · exact absurd (List.getElem?_eq_some_iff.1 hk).1 (by omega)) h9 e8
      simp only [Value.slice.injEq] at g1
      obtain ⟨e1, e2', e3⟩ := g1
      refine ⟨(x, ys), fun k u hk hu => ?_, by rw [hxh]; exact e2', by rw [hxh, e1]; exact g5, by rw [hxh]; exact fun e => ⟨by rw [e2', (g4 (e1 ▸ e)).1]; rfl, by rw [e3]; exact (g4 (e1 ▸ e)).2⟩, by rw [hxh]; omega, g2⟩
      rw [hm] at hk ⊢
      rw [hx k u hk hu]
      exact (hg k hk).1
    obtain ⟨F, hF⟩ := choose_lt hex
    refine ⟨some a, (List.range len0).map (fun i => (F i).1), cap0, (List.range len0).map (fun i => (F i).2), by simp, by simp; omega, by simp; omega, (fun h => by cases h), slR_of (by omega) ?_, ⟨?_, ?_⟩, ?_⟩
    · intro i x hx k u hk hu
      rw [List.getElem?_map] at hx
      by_cases hil : i < len0
      · rw [List.getElem?_range hil] at hx
        simp only [Option.map_some, Option.some.injEq] at hx
        subst hx
        exact (hF i hil).1 k u hk hu
      · rw [List.getElem?_eq_none (by simp; omega)] at hx; cases hx
    · rw [List.map_map, List.map_map, List.map_map]
      exact List.map_congr_left fun i hi => (hF i (List.mem_range.1 hi)).2.1
    · intro i hd' xs e1 e2
      rw [List.map_map, List.getElem?_map] at e1
      rw [List.getElem?_map] at e2
      have hil : i < len0 := by
        by_cases hil : i < len0
        · exact hil
        · rw [List.getElem?_eq_none (by simp; omega)] at e2; cases e2
      rw [List.getElem?_range hil] at e1 e2
      cases e1; cases e2
      exact ⟨(hF i hil).2.2.1, (hF i hil).2.2.2.1, (hF i hil).2.2.2.2.1⟩
    · intro ys hx
      obtain ⟨i, hi, rfl⟩ := List.mem_map.1 hx
      exact (hF i (List.mem_range.1 hi)).2.2.2.2.2
end
end Go.KK

/- The text K35. -/
/-!
  A range over a function of one value whose next value is not known beforehand (the keys of a map).
-/
set_option linter.unusedVariables false
set_option linter.unusedSimpArgs false
namespace Go.KK
section
variable {c : Rx} {R : RP} {ds : List Deferred} {F : Fr} {L : List Asn}
theorem JR.ex {α : Type} {A : α → Asn} {x : Code} (h : ∀ y, JR c R ds F (A y :: L) x) : JR c R ds F ((fun h => ∃ y, A y h) :: L) x := fun a w hF hs he => by
  obtain ⟨y, s⟩ := hs.ex
  exact h y a w hF s he
theorem JR.prop {p : Prop} {A : Asn} {x : Code} (h : p → JR c R ds F (A :: L) x) : JR c R ds F ((fun h => p ∧ A h) :: L) x := fun a w hF hs he => by
  obtain ⟨hp, s⟩ := hs.pure
  exact h hp a w hF s he
theorem JR.star {M : List Asn} {x : Code} (h : JR c R ds F (M ++ L) x) : JR c R ds F (star M :: L) x := fun a w hF hs he => h a w hF (Sat.star.1 hs) he
theorem JR.loopW {x : Code} {ι : Type} (good : ι → Prop) (I : ι → Fr) (H : ι → List Asn) (μ : ι → Nat) (m : World → Nat) (hm : ∀ i w, Sat (hp w) (H i) → m w = μ i) (i0 : ι)
    (hF : Picks F (I i0)) (hL : ∀ h, Sat h L → Sat h (H i0)) (hg : good i0)
    (body : ∀ i, good i → JR c (fun e ds' F' L' => match e with | .normal => ds' = ds ∧ ∃ j, good j ∧ μ j < μ i ∧ Picks F' (I j) ∧ (∀ h, Sat h L' → Sat h (H j)) | e => R e ds' F' L') ds (I i) (H i) x) : JR c R ds F L (.loop x) := fun a w hok hs he =>
  wpIn_loop (fun a w => ∃ i, good i ∧ OkD c.n ds (I i) a ∧ Sat (hp w) (H i) ∧ env w = env c.w0) (fun _ w => m w) ⟨i0, hg, hok.picks hF, hL _ hs, he⟩ fun a w ⟨i, hgi, hi, hsi, hei⟩ =>
    wpIn_mono (body i hgi a w hi hsi hei) fun e a' w' ⟨ds', F', L', hr, hF', hs', he'⟩ => by
      cases e with
      | normal =>
        obtain ⟨e1, j, hj, hlt, hpk, hl⟩ := hr
        subst e1
        have hj' : OkD c.n ds' (I j) a' := OkD.picks hF' hpk
        have hs2 := hl _ hs'
        exact ⟨⟨j, hj, hj', hs2, he'⟩, by rw [hm j w' hs2, hm i w hsi]; exact hlt⟩
      | _ => exact ⟨ds', F', L', hr, hF', hs', he'⟩
end
/-- 'for x := range seq { body }' with a body that always goes on: 'H s' holds where the iterator stands at s, 'Mid s s'' where it has told v and is to come to s'. -/
theorem JR.rangeFunc1 {c : Rx} {R : RP} (hro : c.ro = none) {g : Operand} {t1 : Nat} {assign body : Code} {F : Fr} {L : List Asn} {it : Nat} {cap : Array Value}
    (hg : ev F g = some (.func (.func it) #[] cap)) (eg : ∀ args w, (callFunc it args).run c.P w = .ok (.enter it args) w) (h1 : Nat.blt t1 c.n = true)
    {ι : Type} (H : ι → List Asn) (Mid : ι → ι → List Asn) (step : ι → ι → Value → Prop) (fin : ι → Prop) (s0 : ι) (F1 : Value → Fr) (hL : ∀ h, Sat h L → Sat h (H s0))
    (hit : ∀ (l : Nat) (A B : Asn),
      (∀ s s' v, step s s' v → ∀ w, Sat (hp w) (A :: B :: Mid s s') → env w = env c.w0 → YieldAt Fence.wide 0 c.P l #[v] w (fun e w' => env w' = env c.w0 ∧ e = .returned (.bool true) ∧ Sat (hp w') (A :: B :: H s'))) →
      ∀ w, Sat (hp w) (A :: B :: H s0) → env w = env c.w0 → CallsIn Fence.wide 0 c.P it (#[.func (.yield l) #[] #[]] ++ cap) w (fun e w' => (∃ v, e = .returned v) ∧ env w' = env c.w0 ∧ ∃ s, fin s ∧ Sat (hp w') (A :: B :: H s)))
    (hassign : ∀ (l : Nat) (v : Value) (M : List Asn), JR ⟨c.P, c.n, some l, c.w0⟩ (fun e ds F' M' => e = .normal ∧ ds = [] ∧ M' = M ∧ Picks F' (F1 v)) [] ((t1, v) :: F) M assign)
    (hbody : ∀ (l : Nat) (s s' : ι) (v : Value) (A B : Asn), step s s' v → JR ⟨c.P, c.n, some l, c.w0⟩ (fun e ds F' M => e = .normal ∧ ∀ h, Sat h M → Sat h (A :: B :: H s')) [] (F1 v) (A :: B :: Mid s s') body)
    (hdone : ∀ D A s, fin s → R .normal [mark D] F (A :: blk D dfr :: H s)) :
    JR c R [] F L (.rangeFunc g #[t1] assign body) := by
  intro a w hF hs he
  rw [hro]
  refine wpIn_rangeFunc ?_
  intro fn hfn
  obtain ⟨rec, hrec⟩ : ∃ rec : LoopState → Option Code → Loop, rec = fun st pe => { state := st, pending := pe, fn, tmps := a.tmps, params := #[t1], assign, body, defers := w.heap.size } := ⟨_, rfl⟩
  obtain ⟨W1, hW1⟩ : ∃ W1, (w.alloc (.deferred (some []))).alloc (.loop (rec .ready none)) = W1 := ⟨_, rfl⟩
  have hs1 : Sat (hp W1) (blk (w.heap.size + 1) (.loop (rec .ready none)) :: blk w.heap.size dfr :: H s0) := by
    rw [← hW1, hp_alloc, World.size_alloc, hp_alloc]
    refine Sat.new ?_ (Sat.new (hp_size w) (hL _ hs))
    unfold Hp.upd
    rw [if_neg (by omega)]
    unfold hp; rw [Array.getElem?_eq_none (by omega)]
  have he1 : env W1 = env c.w0 := by rw [← hW1]; exact he
  refine ⟨w.heap.size + 1, [mark w.heap.size], W1, { target := .fn (.func it) cap, args := #[.func (.yield (w.heap.size + 1)) #[] #[]] }, W1, it,
    #[.func (.yield (w.heap.size + 1)) #[] #[]] ++ cap, W1, ?_, ?_, fun f' _ => fen_fn none f', ?_, fun h => (by cases h), ?_⟩
  · rw [← hW1, hrec]; exact run_enterLoop_outer _ _ _ _ _
  · simp only [resolve, hF.ev _ _ hg]
    simp [go_sem]
  · simp [invoke, go_sem, eg]
  generalize w.heap.size = D at *
  have hrr := fun (W : World) (M : List Asn) (o : Obj) (h : Sat (hp W) (blk (D + 1) o :: M)) => (BlkIn.head (L := M) (b := D + 1) (o := o)).out (hp W) h
  refine CallsIn.mono (hit (D + 1) (blk (D + 1) (.loop (rec .ready none))) (blk D dfr) ?_ W1 hs1 he1) ?_
  · intro s s' v hst W hsW heW
    have hl := hrr _ _ _ hsW
    have hy := run_yield (P := c.P) (args := #[v]) (w := W) hl (by rw [hrec]; rfl)
    rw [hrec] at hy
    refine ⟨fn, _, assign, body, hy, roundIn_of_wpIn trivial ?_⟩
    have hz : ((#[t1] : Array Tmp).zip #[v]).foldl (fun tmps (t, a) => tmps.setIfInBounds t a) a.tmps = a.tmps.setIfInBounds t1 v := by simp
    rw [hz]
    have hok : OkD c.n [] ((t1, v) :: F) { tmps := a.tmps.setIfInBounds t1 v, defers := [] } := OkD.put (a := { tmps := a.tmps, defers := [] }) ⟨hF.size, rfl, hF.val⟩ h1
    refine wpIn_mono (hassign (D + 1) v _ _ W hok hsW heW) ?_
    rintro e a1 w1 ⟨ds1, F1', M1, ⟨e1, e2, e3, hpk⟩, hok1, hs1', he1'⟩
    subst e1; subst e2; subst e3
    have hl1 := hrr _ _ _ hs1'
    have hbr := run_beginRound (P := c.P) (w := w1) hl1 (by rw [hrec])
    refine ⟨_, hbr, ?_⟩
    have hs2 := Sat.upd (o' := .loop { rec .ready none with state := .busy }) hs1'
    rw [← hp_putObj hl1] at hs2
    refine wpIn_mono (hbody (D + 1) s s' v _ _ hst a1 _ (hok1.picks hpk) hs2 he1') ?_
    rintro e a2 w2 ⟨ds2, F2, M2, ⟨e1, hM⟩, hok2, hs3, he3⟩
    subst e1
    have hs4 := hM _ hs3
    have hl4 := hrr _ _ _ hs4
    have fin' := run_endRound (P := c.P) none hl4
    rw [hrec] at fin'
    refine ⟨_, _, fin', he3, rfl, ?_⟩
    have hs5 := Sat.upd (o' := .loop (rec .ready none)) hs4
    rw [← hp_putObj hl4, hrec] at hs5
    rw [hrec]
    exact hs5
  · rintro e W2 ⟨⟨v, rfl⟩, heW, s, hfs, hsW⟩
    have hl := hrr _ _ _ hsW
    refine ⟨none, _, by have := run_endLoop (P := c.P) hl (by rw [hrec]; simp); rw [hrec] at this; exact this, ?_⟩
    have hs5 := Sat.upd (o' := .loop { rec .ready none with state := .exhausted }) hsW
    rw [← hp_putObj hl, hrec] at hs5
    exact ⟨_, _, _, hdone D _ s hfs, ⟨hF.size, by simp [hF.defs], hF.val⟩, hs5, heW⟩
end Go.KK

/- The text K36. -/
/-!
  A map's look-up that tells whether the key is there.
-/
set_option linter.unusedVariables false
set_option linter.unusedSimpArgs false
namespace Go.KK
section
variable {κ : Type} [DecidableEq κ] {P : Program} {F : Fr} {L : List Asn} {dst : Option Tmp} {ty : TypeId} {pos : String} {aft : Array Edge} {gd : Option (Nat × Bool)}
theorem run_lookupOk {K : KeyE κ} {t kt et : TypeId} {z : Value} (w : World) (ht : P.underlying t = some (.map kt et)) (hk : P.underlying kt = some K.kind) (hz : (P.info? et).bind (·.zero) = some z)
    {b : Nat} {es : Array MapEntry} {clock : Nat} {m : List (κ × Value)} (hb : hp w b = some (.map es clock)) (he : ents K es m) (k : κ) :
    (Instr.lookup t (.map (some b)) (K.v k) true).run P w = .ok (.tuple #[(alook m k).getD z, .bool (alook m k).isSome]) w := by
  have hu := run_underlying (P := P) ht w
  have hzv : (zeroValue et).run P w = .ok z w := by
    cases hi : P.info? et with
    | none => simp [hi] at hz
    | some i => simp [hi] at hz; simp [zeroValue, typeInfo, hi, hz, go_sem]
  have hg : (getObj b).run P w = .ok (.map es clock) w := by
    have : w.heap[b]? = some (.map es clock) := hb
    exact MapKept.run_getObj_map this
  unfold Instr.lookup
  simp only [Sem.run_bind, hu, Result.andThen_ok, hg, Sem.run_pure, K.scalar P w kt k _ hk, run_findKey w hk he]
  rw [← find_bind]
  cases hf : m.findIdx? (fun p => decide (k = p.1)) with
  | none => simp [hzv]
  | some j =>
    cases hm : m[j]? with
    | none => simp [hm, hzv]
    | some p => simp [hm]
theorem Pur.lookupOk {t kt et : Nat} [hT : MapT P t kt et] {z : Value} [hz : ZeV P et z] {x y : Operand} {b : Nat} {K : KeyE κ} {m : List (κ × Value)} {f : Asn → List Asn} {k : κ} [hK : KeyIs P kt K]
    (hx : ev F x = some (.map (some b))) (hy : ev F y = some (K.v k)) [hm : MpIn K L b m f] :
    Pur P F L ⟨dst, .lookup t x y true, ty, pos, aft, gd⟩ (.tuple #[(alook m k).getD z, .bool (alook m k).isSome]) := fun ρ w hρ hs => by
  obtain ⟨es, clock, hb, he⟩ := MpIn.get (b := b) (hh := hp w) hs
  have := run_lookupOk (P := P) w hT.out hK.out hz.out hb he k
  have hex : execOp ρ ⟨dst, .lookup t x y true, ty, pos, aft, gd⟩ = (do pure (.value (← Instr.lookup t (ρ x) (ρ y) true))) := rfl
  rw [hex, Sem.run_bind, hρ _ _ hx, hρ _ _ hy, this]
  rfl
end
end Go.KK

/- The text K37. -/
/-!
  Rows that are owned, read as rows that are only read; a struct argument taken apart.
-/
set_option linter.unusedVariables false
set_option linter.unusedSimpArgs false
set_option linter.unusedSectionVars false
namespace Go.KK
instance RowsR.own {α : Type} {E : Enc α} {L : List Asn} {hs : List Hdr} {xss : List (List α)} : RowsR E (rows E hs xss :: L) hs xss := ⟨fun h s => by
  have e := (rows_iff.1 s).1
  refine ⟨e, fun i hd xs h1 h2 => ?_⟩
  have s2 := rows_open h1 h2 s
  have hn := hdr_n e h1 h2
  have g1 : slR E h hd.a xs := SlIn.head.out h s2
  have g2 := SlH.nil (a := hd.a) (cap := hd.cap) (E := E) (xs := xs) s2
  have g3 := SlH.le (a := hd.a) (cap := hd.cap) (E := E) (xs := xs) s2
  exact ⟨g1, fun ha => by obtain ⟨a1, a2⟩ := g2 ha; exact ⟨by rw [hn, a1]; rfl, a2⟩, by omega⟩⟩
end Go.KK

/- The text K38. -/
/-!
  A store of a whole element of a slice.
-/
set_option linter.unusedVariables false
set_option linter.unusedSimpArgs false
set_option linter.unusedSectionVars false
namespace Go.KK
section
variable {P : Program} {F : Fr} {L : List Asn} {dst : Option Tmp} {ty : TypeId} {pos : String} {aft : Array Edge} {gd : Option (Nat × Bool)}
theorem Eff.storeSA {α : Type} {E : Enc α} {t m n : Nat} [h1 : Agg P t n] {x y : Operand} {a : Option Addr} {cap i : Nat} {xs : List α} {z' : α} {cs' : List Value} {f : Asn → List Asn}
    (hx : ev F x = some (.pointer (some (el a m i)))) (hy : ev F y = some (.agg cs'.toArray)) [hs : SlH E L a cap xs f] (hm : E.m = m) (hn : n = m) (hi : i < xs.length) (hz : cs' = E.enc z') :
    Eff P F L ⟨dst, .store t x y, ty, pos, aft, gd⟩ (fun u M => u = undef ∧ M = f (sl E a cap (xs.set i z'))) := Eff.of_skip fun ρ w hρ hw => by
  subst hm; subst hz; subst hn
  have hr := hs.out (sl E a cap (xs.set i z'))
  obtain ⟨h0, l0, a0⟩ := Sat.memRep hr hw
  rcases sl_iff.1 a0 with ⟨_, _, hn⟩ | ⟨b, spare, ha, q1, q2, q3, hb⟩
  · subst hn; simp at hi
  subst ha
  have hbw : KK.hp w b = some (.cells (E.all xs ++ spare).toArray E.T (0, 0)) := l0 _ _ hb
  have hle : i * E.m + E.m ≤ (E.all xs).length := by
    rw [E.all_len]
    have : (i + 1) * E.m ≤ xs.length * E.m := Nat.mul_le_mul_right _ hi
    rw [Nat.add_mul] at this; omega
  have hst := run_storeVar_off P w b (i * E.m) E.T t (E.all xs ++ spare) (E.enc z') hbw (by rw [h1.size, E.len]) (by rw [E.len, List.length_append]; omega) (List.all_eq_true.2 fun v hv => E.one z' v hv)
  have e2 : splice (E.all xs ++ spare) (i * E.m) (E.enc z') = E.all (xs.set i z') ++ spare := by
    rw [all_set E hi]
    unfold splice
    rw [E.len, List.take_append_of_le_length (by omega), List.drop_append_of_le_length (by omega)]
    simp
  rw [e2] at hst
  have hel : (el (some ⟨b, 0, none⟩) E.m i) = ⟨b, i * E.m, none⟩ := by simp [el]
  refine ⟨w.setRow b (E.all (xs.set i z') ++ spare).toArray, f (sl E (some ⟨b, 0, none⟩) cap (xs.set i z')), ?_, ⟨rfl, rfl⟩, rfl, ?_⟩
  · have he : execOp ρ ⟨dst, .store t x y, ty, pos, aft, gd⟩ = (do Instr.storeAt t (ρ x) (ρ y); pure .skip) := rfl
    rw [he, Sem.run_bind, hρ _ _ hx, hρ _ _ hy, hel]
    have : (Instr.storeAt t (.pointer (some ⟨b, i * E.m, none⟩)) (.agg (E.enc z').toArray)).run P w = .ok () (w.setRow b (E.all (xs.set i z') ++ spare).toArray) := by
      simp only [Instr.storeAt, Instr.sureAddr, Sem.run_bind, Sem.run_pure, Result.andThen_ok]
      exact hst
    rw [this]; rfl
  · rw [hp_setRow _ _ _ _ _ _ hbw]
    refine Sat.frameRep hr hw fun h1 hA hl1 => ?_
    rcases sl_iff.1 hA with ⟨hno, _, _⟩ | ⟨b', spare', ha', r1, r2, r3, hb'⟩
    · cases hno
    simp only [Option.some.injEq, Addr.mk.injEq, true_and, and_true] at ha'
    subst ha'
    have hsp : spare' = spare := by
      have h2 := hl1 _ _ hb'
      rw [hbw] at h2
      simpa using h2.symm
    subst hsp
    refine ⟨Hp.upd h1 b (.cells (E.all (xs.set i z') ++ spare').toArray E.T (0, 0)), ?_, Hp.upd_le hl1, ?_, ?_⟩
    · exact sl_iff.2 (.inr ⟨b, spare', rfl, by simpa using r1, r2, by simpa using r3, by simp [Hp.upd]⟩)
    · intro x hx'
      unfold Hp.upd at hx'
      by_cases e : x = b
      · left; rw [e, hb']; simp
      · left; simpa [e] using hx'
    · intro x o hxo hno
      unfold Hp.upd
      by_cases e : x = b
      · rw [e, hb'] at hno; cases hno
      · simpa [e] using hxo
end
end Go.KK

/- The text K39. -/
/-!
  Struct arguments whose fields are one cell each.
-/
set_option linter.unusedVariables false
set_option linter.unusedSimpArgs false
set_option linter.unusedSectionVars false
namespace Go.KK
open Go.ChangeShapes Go.WideShapes Go.ChangeAt Go.RowKit
section
open Go.Deep
variable {H : Type} {enc : TypeId × Value → H} {P : Program} {w : World} {base : Nat} {spare : Nat → Bool} {held : Bool}
theorem open_cells {t : TypeId} {fs : Array Field} {fuel : Nat} {cs : List Value} {x : DataW H × List MemPlace} (hs : P.underlying t = some (.struct fs)) (hone : ∀ (i : Nat) (f : Field), fs[i]? = some f → f.offset = i ∧ P.cellsOf f.type = 1) (hC : P.cellsOf t = fs.size)
    (h : DataW.trod enc P w base spare held fuel t cs = some x) :
    ∃ (ys : List (DataW H × List MemPlace)), x = (.agg (ys.map (·.1)), ys.flatMap (·.2)) ∧ cs.length = fs.size ∧ ys.length = fs.size ∧
      ∀ (i : Nat) (f : Field) (c : Value) (y : DataW H × List MemPlace), fs[i]? = some f → cs[i]? = some c → ys[i]? = some y → ∃ n, DataW.trod enc P w base spare held n f.type [c] = some y := by
  obtain ⟨xs, n, _, hx, hl, hxl, hff⟩ := DataW.trod_struct hs h
  refine ⟨xs, hx, by rw [hl, hC], hxl, fun i f c y hi hc hy => ⟨n, ?_⟩⟩
  obtain ⟨ho, hc1⟩ := hone i f hi
  have g := hff i f hi
  have hlt := (List.getElem?_eq_some_iff.1 hc).1
  rw [ho, hc1, take1_drop cs i undef hlt, hy] at g
  rw [List.getD_eq_getElem?_getD, hc] at g
  exact g
theorem open_struct {t : TypeId} {fs : Array Field} {v : Value} {d : DataW H} {ps : List MemPlace} (hs : P.underlying t = some (.struct fs)) (hone : ∀ (i : Nat) (f : Field), fs[i]? = some f → f.offset = i ∧ P.cellsOf f.type = 1) (hC : P.cellsOf t = fs.size)
    (hv : ∃ cs, v = .agg cs ∧ cs.size = P.cellsOf t) (h : DataW.Trod enc P w base spare held t v d ps) :
    ∃ (cs : List Value) (ys : List (DataW H × List MemPlace)), v = .agg cs.toArray ∧ d = .agg (ys.map (·.1)) ∧ ps = ys.flatMap (·.2) ∧ cs.length = fs.size ∧ ys.length = fs.size ∧
      ∀ (i : Nat) (f : Field) (c : Value) (y : DataW H × List MemPlace), fs[i]? = some f → cs[i]? = some c → ys[i]? = some y → ∃ n, DataW.trod enc P w base spare held n f.type [c] = some y := by
  obtain ⟨fuel, hf⟩ := h
  obtain ⟨cs, rfl, hsz⟩ := hv
  obtain ⟨ys, hx, h1, h2, h3⟩ := open_cells hs hone hC (show DataW.trod enc P w base spare held fuel t cs.toList = some (d, ps) from hf)
  exact ⟨cs.toList, ys, by simp, congrArg Prod.fst hx, congrArg Prod.snd hx, h1, h2, h3⟩
theorem len1 {α : Type} {l : List α} (h : l.length = 1) : ∃ a, l = [a] := List.length_eq_one_iff.1 h
theorem len2 {α : Type} {l : List α} (h : l.length = 2) : ∃ a b, l = [a, b] := by
  match l, h with
  | [a, b], _ => exact ⟨a, b, rfl⟩
theorem len3 {α : Type} {l : List α} (h : l.length = 3) : ∃ a b c, l = [a, b, c] := by
  match l, h with
  | [a, b, c], _ => exact ⟨a, b, c, rfl⟩
theorem len6 {α : Type} {l : List α} (h : l.length = 6) : ∃ a b c d e f, l = [a, b, c, d, e, f] := by
  match l, h with
  | [a, b, c, d, e, f], _ => exact ⟨a, b, c, d, e, f, rfl⟩
/-- A cell that is a slice's is read as the slice. -/
theorem cell_slice {t e : TypeId} {n : Nat} {c : Value} {y : DataW H × List MemPlace} (ht : P.underlying t = some (.slice e)) (h : DataW.trod enc P w base spare held n t [c] = some y) : (∃ a len cap, c = .slice a len cap) ∧ DataW.Trod enc P w base spare held t c y.1 y.2 := by
  have hs : ∃ a len cap, c = .slice a len cap := by
    rcases open_slice ht h with h0 | ⟨a, len, cap, m, n', D, Pl, h0, _⟩
    · simp at h0; exact ⟨_, _, _, h0.1⟩
    · simp at h0; exact ⟨_, _, _, h0⟩
  refine ⟨hs, n, ?_⟩
  obtain ⟨a, len, cap, rfl⟩ := hs
  exact h
theorem cell_string {t : TypeId} {n : Nat} {c : Value} {y : DataW H × List MemPlace} (ht : P.underlying t = some .string) (h : DataW.trod enc P w base spare held n t [c] = some y) : ∃ s, c = .string s := by
  obtain ⟨s, e, _⟩ := DataW.trod_string ht h
  simp at e; exact ⟨s, e⟩
theorem cell_int {t : TypeId} {k : IntKind} {n : Nat} {c : Value} {y : DataW H × List MemPlace} (ht : P.underlying t = some (.int k)) (h : DataW.trod enc P w base spare held n t [c] = some y) : ∃ z, c = .int k z ∧ (Lit.int k z).wf = true := by
  obtain ⟨s, e, _, hw⟩ := DataW.trod_int ht h
  simp at e; exact ⟨s, e, hw⟩
/-- What a struct's parts weigh. -/
theorem reach_fields {t : TypeId} {fs : Array Field} {parts : List (DataW H)} {ts : List TypeId} {ds : List (DataW H)} {j : Nat} (hz : (DataW.weightsEach P ts ds).all (· ≤ reachBytes) = true) (h1 : ts[j]? = some t) (h2 : ds[j]? = some (.agg parts)) (hs : P.underlying t = some (.struct fs)) :
    (DataW.weightsEach P (fs.toList.map (·.type)) parts).all (· ≤ reachBytes) = true := by
  refine List.all_eq_true.2 fun n hn => ?_
  exact List.all_eq_true.1 hz n (DataW.weights_mem_each h1 h2 n (by simp only [DataW.weights, hs]; exact hn))
end
end Go.KK

/- The text K40. -/
/-!
  The middle of two ints by way of uint.
-/
set_option linter.unusedVariables false
set_option linter.unusedSimpArgs false
namespace Go.KK
section
variable {P : Program} {F : Fr} {L : List Asn} {dst : Option Tmp} {ty : TypeId} {pos : String} {aft : Array Edge} {gd : Option (Nat × Bool)}
class IntT (P : Program) (t : Nat) (k : outParam IntKind) : Prop where
  out : P.underlying t = some (.int k)
theorem Pur.convI {t t' : Nat} {k k' : IntKind} {x : Operand} {n : Int} [h1 : IntT P t k] [h2 : IntT P t' k'] (hx : ev F x = some (.int k n)) (h : k'.wrap n = n) :
    Pur P F L ⟨dst, .convert t t' x, ty, pos, aft, gd⟩ (.int k' n) := fun ρ w hρ _ => by
  have e1 := h1.out
  have e2 := h2.out
  have hk : P.intKind t' = k' := by simp [Program.intKind, e2]
  have := run_convert_int (P := P) t t' k n (by rw [e1]; rfl) (by rw [e2, hk]) (w := w)
  rw [hk, h] at this
  simp [execOp, hρ _ _ hx, this, go_sem]
theorem Pur.shrU1 {t t' : Nat} {x y : Operand} {n : Nat} {j : Int} (hx : ev F x = some (.int .u64 j)) (hy : ev F y = some (.int .u64 1)) (hj : j = (n : Int)) :
    Pur P F L ⟨dst, .binOp .shr t x y t', ty, pos, aft, gd⟩ (.int .u64 ((n / 2 : Nat) : Int)) := fun ρ w hρ _ => by
  subst hj
  have h1 := shift_shr_u64 (yk := .u64) (x := (n : Int)) (y := 1) (by omega) (by omega)
  have h2 : (n : Int) / 2 ^ (1 : Int).toNat = ((n / 2 : Nat) : Int) := by rw [Int.natCast_ediv]; rfl
  rw [h2] at h1
  simp [execOp, hρ _ _ hx, hρ _ _ hy, eqGuard, binOp_shr, h1, go_sem]
end
end Go.KK
namespace Go.KK
theorem CellsIn.sub1 {L : List Asn} {b k : Nat} {cs : List Value} {T : TypeId} {fz : Nat × Nat} {v : Value} [hb : BlkIn L b (.cells cs.toArray T fz)] (h : cs[k]? = some v) : CellsIn L ⟨b, k, none⟩ [v] := fun hh hs j u hv => by
  have h1 := hb.out hh hs
  match j, hv with
  | 0, hv =>
    obtain rfl := Option.some.inj hv
    simp [cellH, h1, h]
theorem CellsIn.sub2 {L : List Asn} {b k : Nat} {cs : List Value} {T : TypeId} {fz : Nat × Nat} {v v2 : Value} [hb : BlkIn L b (.cells cs.toArray T fz)] (h : cs[k]? = some v) (h2 : cs[k + 1]? = some v2) : CellsIn L ⟨b, k, none⟩ [v, v2] := fun hh hs j u hv => by
  have h1 := hb.out hh hs
  match j, hv with
  | 0, hv =>
    obtain rfl := Option.some.inj hv
    simp [cellH, h1, h]
  | 1, hv =>
    obtain rfl := Option.some.inj hv
    simp [cellH, h1, h2]
end Go.KK
