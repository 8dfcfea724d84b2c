/-
  A part of the proof of the claim that this folder bears.
  This text: K12.
-/
import Derived.Test.YtekgkamjbnfgiaaK11
set_option linter.unusedVariables false
set_option linter.unusedSimpArgs false
namespace Go.KK

theorem Rep.same {A : Asn} {L M : List Asn} (h : Rep A A L M) : L = M := by
  induction h with
  | head => rfl
  | tail _ ih => exact congrArg _ ih

theorem hp_setRow (w : World) (b : Nat) (old cs : Array Value) (T : TypeId) (fz : Nat × Nat) (h : hp w b = some (.cells old T fz)) : hp (w.setRow b cs) = Hp.upd (hp w) b (.cells cs T fz) := by
  funext z
  unfold Hp.upd
  by_cases e : z = b
  · subst e; simp only [if_true]; exact setRow_heap w z old cs T fz h
  · simp only [e, if_false]; exact setRow_other w b z cs e

/-- A slice's array is written beyond what the slice shows, or anew: the law of its owner. -/
theorem sl_row {α : Type} {E : Enc α} {L : List Asn} {a : Option Addr} {cap : Nat} {xs ys : List α} {f : Asn → List Asn} {w : World} {b : Nat} {sp sp' : List Value} (hh : SlH E L a cap xs f) (hs : Sat (hp w) L) (ha : a = some ⟨b, 0, none⟩)
    (hb : hp w b = some (.cells (E.all xs ++ sp).toArray E.T (0, 0))) (hx : xs ≠ [] ∨ 0 < cap) (hle : ys.length ≤ cap) (hcap : cap ≤ maxLen) (hsp : sp'.length = (cap - ys.length) * E.m) :
    Sat (hp (w.setRow b (E.all ys ++ sp').toArray)) (f (sl E a cap ys)) := by
  subst ha
  rw [hp_setRow _ _ _ _ _ _ hb]
  refine Sat.frameRep (hh.out _) hs fun h1 hA hl1 => ?_
  rcases sl_iff.1 hA with ⟨hno, hc0, hx0⟩ | ⟨b', spare', ha', r1, r2, r3, hb'⟩
  · cases hno
  simp only [Option.some.injEq, Addr.mk.injEq, true_and, and_true] at ha'
  subst ha'
  refine ⟨Hp.upd h1 b (.cells (E.all ys ++ sp').toArray E.T (0, 0)), sl_iff.2 (.inr ⟨b, sp', rfl, hle, hcap, hsp, by simp [Hp.upd]⟩), ?_, ?_, ?_⟩
  · intro x o hxo
    unfold Hp.upd at *
    by_cases e : x = b
    · simpa [e] using hxo
    · simp only [e, if_false] at *; exact hl1 _ _ hxo
  · intro x hx'
    unfold Hp.upd at hx'
    by_cases e : x = b
    · left; rw [e, hb']; simp
    · left; simpa [e] using hx'
  · intro x o hxo hno
    unfold Hp.upd
    by_cases e : x = b
    · rw [e, hb'] at hno; cases hno
    · simpa [e] using hxo

theorem SlH.own {α : Type} {E : Enc α} {L : List Asn} {a : Option Addr} {cap : Nat} {xs : List α} {f : Asn → List Asn} (hh : SlH E L a cap xs f) {h : Hp} (hs : Sat h L) :
    (a = none ∧ cap = 0 ∧ xs = []) ∨ ∃ b sp, a = some ⟨b, 0, none⟩ ∧ xs.length ≤ cap ∧ cap ≤ maxLen ∧ sp.length = (cap - xs.length) * E.m ∧ h b = some (.cells (E.all xs ++ sp).toArray E.T (0, 0)) := by
  obtain ⟨h1, l, s⟩ := Sat.memRep (hh.out (sl E a cap xs)) hs
  rcases sl_iff.1 s with h0 | ⟨b, sp, e1, e2, e3, e4, e5⟩
  · exact .inl h0
  · exact .inr ⟨b, sp, e1, e2, e3, e4, l _ _ e5⟩

section
variable {P : Program} {F : Fr} {L : List Asn} {dst : Option Tmp} {ty : TypeId} {pos : String} {aft : Array Edge} {gd : Option (Nat × Bool)}

theorem Pur.slice0 {t e m by_ : Nat} {z : Value} [ha : SlT P t e m by_ z] {x y : Operand} {kd : IntKind} {a : Option Addr} {n cap h : Nat} {i : Int}
    (hx : ev F x = some (.slice a n cap)) (hy : ev F y = some (.int kd i)) (hi : i = (h : Int)) (h2 : h ≤ cap) :
    Pur P F L ⟨dst, .slice t x none (some y) none, ty, pos, aft, gd⟩ (.slice a h cap) := by
  subst hi
  have := Pur.slice (P := P) (F := F) (L := L) (dst := dst) (ty := ty) (pos := pos) (aft := aft) (gd := gd) (t := t) (lo := none) (hi := some y) (l := 0) (h := h) hx (.inl ⟨rfl, rfl⟩) (.inr ⟨_, _, rfl, hy⟩) (Nat.zero_le _) h2
  have e : (if cap = 0 then a else a.map (·.add (0 * m))) = a := by
    split
    · rfl
    · cases a <;> simp [Addr.add]
  rw [e] at this
  simpa using this

def tailA (a : Option Addr) (cap j m : Nat) : Option Addr := if cap = j then a else a.map (·.add (j * m))

theorem Pur.slice1 {t e m by_ : Nat} {z : Value} [ha : SlT P t e m by_ z] {x y : Operand} {kd : IntKind} {a : Option Addr} {n cap l : Nat} {i : Int}
    (hx : ev F x = some (.slice a n cap)) (hy : ev F y = some (.int kd i)) (hi : i = (l : Int)) (h1 : l ≤ n) (h2 : n ≤ cap) :
    Pur P F L ⟨dst, .slice t x (some y) none none, ty, pos, aft, gd⟩ (.slice (tailA a cap l m) (n - l) (cap - l)) := by
  subst hi
  exact Pur.slice (P := P) (F := F) (L := L) (dst := dst) (ty := ty) (pos := pos) (aft := aft) (gd := gd) (t := t) (lo := some y) (hi := none) (l := l) (h := n) hx (.inr ⟨_, _, rfl, hy⟩) (.inl ⟨rfl, rfl⟩) h1 h2
theorem Pur.slice2 {t e m by_ : Nat} {z : Value} [ha : SlT P t e m by_ z] {x y y' : Operand} {kd kd' : IntKind} {a : Option Addr} {n cap l h : Nat} {i j : Int}
    (hx : ev F x = some (.slice a n cap)) (hy : ev F y = some (.int kd i)) (hy' : ev F y' = some (.int kd' j)) (hi : i = (l : Int)) (hj : j = (h : Int)) (h1 : l ≤ h) (h2 : h ≤ cap) :
    Pur P F L ⟨dst, .slice t x (some y) (some y') none, ty, pos, aft, gd⟩ (.slice (tailA a cap l m) (h - l) (cap - l)) := by
  subst hi; subst hj
  exact Pur.slice (P := P) (F := F) (L := L) (dst := dst) (ty := ty) (pos := pos) (aft := aft) (gd := gd) (t := t) (lo := some y) (hi := some y') (l := l) (h := h) hx (.inr ⟨_, _, rfl, hy⟩) (.inr ⟨_, _, rfl, hy'⟩) h1 h2
theorem Pur.slice3 {t e m by_ : Nat} {z : Value} [ha : SlT P t e m by_ z] {x y y' y2 : Operand} {kd kd' kd2 : IntKind} {a : Option Addr} {n cap l h mx : Nat} {i j k : Int}
    (hx : ev F x = some (.slice a n cap)) (hy : ev F y = some (.int kd i)) (hy' : ev F y' = some (.int kd' j)) (hy2 : ev F y2 = some (.int kd2 k)) (hi : i = (l : Int)) (hj : j = (h : Int)) (hk : k = (mx : Int)) (h1 : l ≤ h) (h2 : h ≤ mx) (h3 : mx ≤ cap) :
    Pur P F L ⟨dst, .slice t x (some y) (some y') (some y2), ty, pos, aft, gd⟩ (.slice (tailA a mx l m) (h - l) (mx - l)) := fun ρ w hρ _ => by
  subst hi; subst hj; subst hk
  obtain ⟨i', hu, hi', hz', rfl, rfl, _⟩ := sltB_spec ha.out
  have hsz : (sizeOf e).run P w = .ok i'.size w := run_sizeOf_of (by simp [hi'])
  have hb0 : (Instr.sliceBound (ρ y2) cap .slice3Acap).run P w = .ok mx w := by
    have : (mx : Int) ≤ cap := by omega
    simp [Instr.sliceBound, hρ _ _ hy2, asIntOf, this, go_sem]
  have hb1 : (Instr.sliceBound (ρ y') mx .slice3B).run P w = .ok h w := by
    have : (h : Int) ≤ mx := by omega
    simp [Instr.sliceBound, hρ _ _ hy', asIntOf, this, go_sem]
  have hb2 : (Instr.sliceBound (ρ y) h .slice3C).run P w = .ok l w := by
    have : (l : Int) ≤ h := by omega
    simp [Instr.sliceBound, hρ _ _ hy, asIntOf, this, go_sem]
  simp [execOp, Instr.sliceAt, Instr.slice, Instr.sliceBounds, hρ _ _ hx, hu, underlying, hsz, hb0, hb1, hb2, tailA, go_sem]

theorem Eff.deleteApp {α : Type} {E : Enc α} {t e m by_ : Nat} {z : Value} [ha : SlT P t e m by_ z] {s x : Operand} {a : Option Addr} {cap i j n cap2 : Nat} {xs : List α} {f : Asn → List Asn}
    (hs : ev F s = some (.slice a i cap)) (hx : ev F x = some (.slice (tailA a cap j m) (n - j) cap2)) [hh : SlH E L a cap xs f] (hT : E.T = e) (hm : E.m = m) (hn : n = xs.length) (hij : i ≤ j) (hjn : j ≤ n) (hpos : 0 < n) :
    Eff P F L ⟨dst, .call ⟨.builtin .append, #[s, x], #[t, t]⟩, ty, pos, aft, gd⟩ (fun u M => u = .slice a (i + (n - j)) cap ∧ M = f (sl E a cap (xs.take i ++ xs.drop j))) := Eff.of_run fun ρ w hρ hw => by
  obtain ⟨i', hu, hi', hz', rfl, rfl, hzc⟩ := sltB_spec ha.out
  subst hT; subst hn
  rcases hh.own hw with ⟨_, _, h0⟩ | ⟨b, sp, rfl, q1, q2, q3, hb⟩
  · subst h0; simp at hpos
  have hall : E.all xs = E.all (xs.take j) ++ E.all (xs.drop j) := by rw [← E.all_append, List.take_append_drop]
  have hallj : (E.all (xs.take j)).length = j * E.m := by rw [E.all_len, List.length_take, Nat.min_eq_left hjn]
  have hallt : (E.all xs).take (i * E.m) = E.all (xs.take i) := by
    have : E.all xs = E.all (xs.take i) ++ E.all (xs.drop i) := by rw [← E.all_append, List.take_append_drop]
    rw [this, List.take_append_of_le_length (by rw [E.all_len, List.length_take, Nat.min_eq_left (by omega)]; exact Nat.le_refl _)]
    rw [List.take_of_length_le (by rw [E.all_len, List.length_take, Nat.min_eq_left (by omega)]; exact Nat.le_refl _)]
  have hd : (E.all (xs.drop j)).length = (xs.length - j) * i'.size := by rw [E.all_len, List.length_drop, hm]
  have hallx : (E.all xs).length = xs.length * E.m := E.all_len xs
  have hile : i * E.m ≤ xs.length * E.m := Nat.mul_le_mul_right _ (by omega)
  have hsum : i * E.m + (xs.length - j) * E.m ≤ xs.length * E.m := by rw [← Nat.add_mul]; exact Nat.mul_le_mul_right _ (by omega)
  -- the tail's address
  have hrun : ∃ p c', Value.slice (tailA (some ⟨b, 0, none⟩) cap j i'.size) (xs.length - j) cap2 = .slice (some p) (xs.length - j) c' ∧ (∀ k u, (E.all (xs.drop j))[k]? = some u → w.cell? (p.add k) = some u) := by
    unfold tailA
    by_cases hcj : cap = j
    · refine ⟨⟨b, 0, none⟩, cap2, by simp [hcj], ?_⟩
      intro k u hk
      have : xs.drop j = [] := List.drop_of_length_le (by omega)
      rw [this] at hk; simp [Enc.all] at hk
    · refine ⟨(⟨b, 0, none⟩ : Addr).add (j * i'.size), cap2, by simp [hcj], ?_⟩
      intro k u hk
      have hlt := (List.getElem?_eq_some_iff.1 hk).1
      have e1 : ((⟨b, 0, none⟩ : Addr).add (j * i'.size)).add k = ⟨b, j * i'.size + k, none⟩ := by
        unfold Addr.add; split <;> split <;> simp_all
      rw [e1, cell?_eq]
      have hlt2 : j * i'.size + k < (E.all xs).length := by
        rw [hall, List.length_append, hallj, hm]; omega
      simp only [cellH, hb, Option.isSome_none, Bool.false_eq_true, if_false, List.getElem?_toArray]
      rw [List.getElem?_append_left hlt2, hall, List.getElem?_append_right (by rw [hallj, hm]; omega), hallj, hm]
      simpa using hk
  obtain ⟨p, c', hval, hnews⟩ := hrun
  have hr := run_append_room (P := P) w t ty E.T i' hu hi' b i cap (E.all xs ++ sp).toArray hb p (xs.length - j) c' (E.all (xs.drop j)) hd hnews (E.all_one _) (by omega) (by
    rw [hd]; simp only [List.size_toArray, List.length_append, hallx]; rw [← hm]; omega)
  refine ⟨.slice (some ⟨b, 0, none⟩) (i + (xs.length - j)) cap, w.setRow b (E.all (xs.take i ++ xs.drop j) ++ (E.all xs ++ sp).drop (i * E.m + (xs.length - j) * E.m)).toArray, f (sl E (some ⟨b, 0, none⟩) cap (xs.take i ++ xs.drop j)), ?_, ⟨rfl, rfl⟩, rfl, ?_⟩
  · unfold execOp
    simp only [resolve, invoke, builtin, Sem.run_bind, Sem.run_pure, Result.andThen_ok, List.map_toArray, List.map_cons, List.map_nil, hρ _ _ hs, hρ _ _ hx, hval, hr]
    congr 3
    rw [hd, ← hm, E.all_append, ← hallt, List.take_append_of_le_length (by rw [hallx]; exact hile)]
  · refine sl_row hh hw rfl hb (.inr (by omega)) (by simp; omega) q2 ?_
    simp only [List.length_drop, List.length_append, List.length_take, hallx, q3]
    have e3 : xs.length * E.m + (cap - xs.length) * E.m = cap * E.m := by rw [← Nat.add_mul]; congr 1; omega
    have e4 : (cap - (i + (xs.length - j))) * E.m + (i * E.m + (xs.length - j) * E.m) = cap * E.m := by rw [← Nat.add_mul, ← Nat.add_mul]; congr 1; omega
    rw [e3, Nat.min_eq_left (by omega)]
    omega

theorem Eff.clearSpare {α : Type} {E : Enc α} {t e m by_ : Nat} {z : Value} [ha : SlT P t e m by_ z] {x : Operand} {a : Option Addr} {cap n k cap2 : Nat} {xs : List α} {f : Asn → List Asn}
    (hx : ev F x = some (.slice (tailA a cap n m) k cap2)) [hh : SlH E L a cap xs f] (hT : E.T = e) (hm : E.m = m) (hn : n = xs.length) (hk : n + k ≤ cap) (hone : ∀ v ∈ z.cells, v.oneCell' = true) :
    Eff P F L ⟨dst, .call ⟨.builtin .clear, #[x], #[t]⟩, ty, pos, aft, gd⟩ (fun u M => u = .tuple #[] ∧ M = f (sl E a cap xs)) := Eff.of_run fun ρ w hρ hw => by
  obtain ⟨i', hu, hi', hz', rfl, rfl, hzc⟩ := sltB_spec ha.out
  subst hT; subst hn
  have hsame : L = f (sl E a cap xs) := Rep.same (hh.out (sl E a cap xs))
  have hund : (underlying t).run P w = .ok (.slice E.T) w := run_underlying hu w
  by_cases hk0 : k = 0
  · subst hk0
    refine ⟨.tuple #[], w, _, ?_, ⟨rfl, rfl⟩, rfl, by rw [← hsame]; exact hw⟩
    unfold execOp
    simp only [resolve, invoke, builtin, Builtin.clear_, Sem.run_bind, Sem.run_pure, Result.andThen_ok, List.map_toArray, List.map_cons, List.map_nil, hρ _ _ hx]
    simp [hund]
    cases tailA a cap xs.length i'.size <;> simp
  rcases hh.own hw with ⟨_, h1, h0⟩ | ⟨b, sp, rfl, q1, q2, q3, hb⟩
  · omega
  have hcn : cap ≠ xs.length := by omega
  have hta : tailA (some ⟨b, 0, none⟩) cap xs.length i'.size = some ⟨b, xs.length * i'.size, none⟩ := by
    unfold tailA; rw [if_neg hcn]; simp only [Option.map_some, Option.some.injEq]; unfold Addr.add; split <;> simp_all
  have hzv : (zeroValue E.T).run P w = .ok z w := by simp [zeroValue, typeInfo, hi', hz', go_sem]
  have hzl : (Builtin.zeroCells z.cells k).toList.length = k * i'.size := by simp [size_zeroCells, hzc]
  have hone' : ∀ v ∈ (Builtin.zeroCells z.cells k).toList, v.oneCell' = true := by
    intro v hv
    simp only [Builtin.zeroCells, Array.toList_map, List.mem_map] at hv
    obtain ⟨i, hi, rfl⟩ := hv
    have : i % z.cells.size < z.cells.size := by
      refine Nat.mod_lt _ ?_
      rcases Nat.eq_zero_or_pos z.cells.size with h | h
      · simp [h] at hi
      · exact h
    rw [getElem!_pos z.cells _ this]
    exact hone _ (Array.getElem_mem this)
  have hkm : xs.length * i'.size + k * i'.size ≤ cap * i'.size := by rw [← Nat.add_mul]; exact Nat.mul_le_mul_right _ hk
  have hcs : (E.all xs ++ sp).length = cap * i'.size := by rw [List.length_append, E.all_len, q3, ← hm, ← Nat.add_mul]; congr 1; omega
  have hst := run_storeCells_at P b (xs.length * i'.size) E.T (Builtin.zeroCells z.cells k).toList 0 (E.all xs ++ sp).toArray w hb (by simp only [Nat.add_zero, hzl, List.size_toArray, hcs]; omega) hone'
  simp only [Nat.add_zero, hzl] at hst
  refine ⟨.tuple #[], w.setRow b (E.all xs ++ ((Builtin.zeroCells z.cells k).toList ++ (E.all xs ++ sp).drop (xs.length * i'.size + k * i'.size))).toArray, f (sl E (some ⟨b, 0, none⟩) cap xs), ?_, ⟨rfl, rfl⟩, rfl, ?_⟩
  · unfold execOp
    simp only [resolve, invoke, builtin, Builtin.clear_, Sem.run_bind, Sem.run_pure, Result.andThen_ok, List.map_toArray, List.map_cons, List.map_nil, hρ _ _ hx, hta]
    obtain ⟨k', rfl⟩ : ∃ k', k = k' + 1 := ⟨k - 1, by omega⟩
    simp [hund, hzv, hst]
    congr 1
    have : (E.all xs).length = xs.length * i'.size := by rw [E.all_len, hm]
    rw [← this, List.take_left]
  · refine sl_row hh hw rfl hb (.inr (by omega)) q1 q2 ?_
    simp only [List.length_append, hzl, List.length_drop, E.all_len, hm, q3]
    rw [← Nat.add_mul] at *
    rw [Nat.sub_mul]
    have e3 : xs.length * i'.size + (cap - xs.length) * i'.size = cap * i'.size := by rw [← Nat.add_mul]; congr 1; omega
    rw [Nat.add_mul] at *
    omega
end
end Go.KK
