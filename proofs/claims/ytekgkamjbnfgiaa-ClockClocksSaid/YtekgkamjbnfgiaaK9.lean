/-
  A part of the proof of the claim that this folder bears.
  This text: K9.
-/
import Derived.Test.YtekgkamjbnfgiaaK8
import Derived.Laws.OwnMore
set_option linter.unusedVariables false
set_option linter.unusedSimpArgs false
namespace Go.KK

/-- Where a block, a slice stands in a list of assertions, and the list with another one there. -/
class BlkH (L : List Asn) (b : Nat) (o : outParam Obj) (f : outParam (Obj → List Asn)) : Prop where
  out : ∀ o', Rep (blk b o) (blk b o') L (f o')
instance BlkH.head {L : List Asn} {b : Nat} {o : Obj} : BlkH (blk b o :: L) b o (fun o' => blk b o' :: L) := ⟨fun _ => .head⟩
instance (priority := 900) BlkH.tail {A : Asn} {L : List Asn} {b : Nat} {o : Obj} {f : Obj → List Asn} [h : BlkH L b o f] : BlkH (A :: L) b o (fun o' => A :: f o') := ⟨fun o' => .tail (h.out o')⟩
class SlH {α : outParam Type} (E : outParam (Enc α)) (L : List Asn) (a : Option Addr) (cap : outParam Nat) (xs : outParam (List α)) (f : outParam (Asn → List Asn)) : Prop where
  out : ∀ B, Rep (sl E a cap xs) B L (f B)
instance SlH.head {α : Type} {E : Enc α} {L : List Asn} {a : Option Addr} {cap : Nat} {xs : List α} : SlH E (sl E a cap xs :: L) a cap xs (fun B => B :: L) := ⟨fun _ => .head⟩
instance (priority := 900) SlH.tail {α : Type} {E : Enc α} {A : Asn} {L : List Asn} {a : Option Addr} {cap : Nat} {xs : List α} {f : Asn → List Asn} [h : SlH E L a cap xs f] : SlH E (A :: L) a cap xs (fun B => A :: f B) := ⟨fun B => .tail (h.out B)⟩

theorem SlH.slIn {α : Type} {E : Enc α} {L : List Asn} {a : Option Addr} {cap : Nat} {xs : List α} {f : Asn → List Asn} (h : SlH E L a cap xs f) : SlIn E L a xs := ⟨fun hh hs => by
  obtain ⟨h1, l, s⟩ := Sat.memRep (h.out (sl E a cap xs)) hs
  exact (sl.slR s).mono l⟩

section
variable {P : Program} {F : Fr} {L : List Asn} {dst : Option Tmp} {ty : TypeId} {pos : String} {aft : Array Edge} {gd : Option (Nat × Bool)}

theorem Eff.storeB {t : Nat} [h1 : One P t] {x y : Operand} {b k : Nat} {v : Value} {cs cs' : List Value} {T : TypeId} {f : Obj → List Asn}
    (hx : ev F x = some (.pointer (some ⟨b, k, none⟩))) (hy : ev F y = some v) (hv : v.oneCell' = true) [hb : BlkH L b (.cells cs.toArray T (0, 0)) f] (hset : SetAt v cs k cs') :
    Eff P F L ⟨dst, .store t x y, ty, pos, aft, gd⟩ (fun u M => u = undef ∧ M = f (.cells cs'.toArray T (0, 0))) :=
  Eff.store (p := ⟨b, k, none⟩) hx hy hv rfl rfl hset (hb.out _)

theorem Eff.storeS {α : Type} {E : Enc α} {t m : Nat} [h1 : One P t] {x y : Operand} {v : Value} {a : Option Addr} {cap i k : Nat} {xs : List α} {z z' : α} {f : Asn → List Asn}
    (hx : ev F x = some (.pointer (some ⟨(el a m i).block, (el a m i).off + k, none⟩))) (hy : ev F y = some v) (hv : v.oneCell' = true) [hs : SlH E L a cap xs f] (hm : E.m = m)
    (hz : xs[i]? = some z) (hset : SetAt v (E.enc z) k (E.enc z')) :
    Eff P F L ⟨dst, .store t x y, ty, pos, aft, gd⟩ (fun u M => u = undef ∧ M = f (sl E a cap (xs.set i z'))) := by
  subst hm
  exact Eff.storeEl hx hy hv rfl hz hset (hs.out _)
theorem Eff.storeS0 {α : Type} {E : Enc α} {t m : Nat} [h1 : One P t] {x y : Operand} {v : Value} {a : Option Addr} {cap i : Nat} {xs : List α} {z z' : α} {f : Asn → List Asn}
    (hx : ev F x = some (.pointer (some (el a m i)))) (hy : ev F y = some v) (hv : v.oneCell' = true) [hs : SlH E L a cap xs f] (hm : E.m = m)
    (hz : xs[i]? = some z) (hset : SetAt v (E.enc z) 0 (E.enc z')) :
    Eff P F L ⟨dst, .store t x y, ty, pos, aft, gd⟩ (fun u M => u = undef ∧ M = f (sl E a cap (xs.set i z'))) := by
  subst hm
  exact Eff.storeEl hx hy hv rfl hz hset (hs.out _)

theorem sl_owns {α : Type} {E : Enc α} {a : Option Addr} {cap : Nat} {xs : List α} {h1 : Hp} {w : World} (hs : sl E a cap xs h1) (hl : Hp.le h1 (hp w)) : w.ownsRow 0 E.T E.m (.slice a xs.length cap) xs.length (E.all xs) := by
  refine ⟨E.all_len xs, ?_⟩
  rcases sl_iff.1 hs with ⟨rfl, rfl, rfl⟩ | ⟨b, spare, rfl, q1, q2, q3, hb⟩
  · exact .inl ⟨rfl, rfl⟩
  · refine .inr ⟨b, cap, _, rfl, Nat.zero_le _, hl _ _ hb, q1, q2, ?_, ?_⟩
    · simp [E.all_len, q3]; rw [← Nat.add_mul]; congr 1; omega
    · simp only []
      rw [← E.all_len xs]; exact List.take_left

theorem owns_sl {α : Type} {E : Enc α} {v : Value} {xs : List α} {w : World} {n : Nat} (hn : n = xs.length) (ho : w.ownsRow 0 E.T E.m v n (E.all xs)) :
    ∃ a cap, v = .slice a xs.length cap ∧ ∃ h1, sl E a cap xs h1 ∧ Hp.le h1 (hp w) ∧ (∀ b, h1 b ≠ none → a = some ⟨b, 0, none⟩) := by
  subst hn
  rcases ho.2 with ⟨rfl, h0⟩ | ⟨g, cap, cur, rfl, _, hg, hnc, hcm, hsz, htk⟩
  · have : xs = [] := List.eq_nil_of_length_eq_zero h0
    subst this
    exact ⟨none, 0, rfl, fun _ => none, sl_iff.2 (.inl ⟨rfl, rfl, rfl⟩), (fun _ _ h => (by cases h)), fun _ h => absurd rfl h⟩
  · refine ⟨some ⟨g, 0, none⟩, cap, rfl, fun b => if b = g then some (.cells cur E.T (0, 0)) else none, sl_iff.2 (.inr ⟨g, cur.toList.drop (xs.length * E.m), rfl, hnc, hcm, ?_, ?_⟩), ?_, ?_⟩
    · simp [hsz, Nat.sub_mul]
    · simp only [if_true, Option.some.injEq]
      rw [← htk, List.take_append_drop]
    · intro b o hb
      by_cases e : b = g
      · subst e; simp at hb; subst hb; exact hg
      · simp [e] at hb
    · intro b hb
      by_cases e : b = g
      · rw [e]
      · simp [e] at hb

theorem Eff.append {α : Type} {E : Enc α} {t e m by_ : Nat} {z : Value} [ha : SlT P t e m by_ z] {s x : Operand} {a a2 : Option Addr} {n cap n2 cap2 : Nat} {xs ys : List α} {f : Asn → List Asn}
    (hs : ev F s = some (.slice a n cap)) (hx : ev F x = some (.slice a2 n2 cap2)) [hh : SlH E L a cap xs f] [hi : SlIn E L a2 ys] (hT : E.T = e) (hm : E.m = m) (hn : n = xs.length) (hn2 : n2 = ys.length)
    (hpos : 0 < m) (hsmall : (xs.length + ys.length) * by_ ≤ 140737488355328) (hmax : xs.length + ys.length ≤ 140737488355328) (hnil : a2 = none → n2 = 0 ∧ cap2 = 0) :
    Eff P F L ⟨dst, .call ⟨.builtin .append, #[s, x], #[t, t]⟩, ty, pos, aft, gd⟩ (fun u M => ∃ a' cap', u = .slice a' (xs.length + ys.length) cap' ∧ M = f (sl E a' cap' (xs ++ ys))) := Eff.of_run fun ρ w hρ hw => by
  obtain ⟨i', hu, hi', hz', rfl, rfl, hzc⟩ := sltB_spec ha.out
  subst hT; subst hn; subst hn2
  obtain ⟨h0, l0, s0⟩ := Sat.memRep (hh.out (sl E a cap xs)) hw
  have hown := sl_owns s0 l0
  have hcall : ∀ v w', (Builtin.append_ #[t, t] ty #[.slice a xs.length cap, .slice a2 ys.length cap2]).run P w = .ok v w' → (execOp ρ ⟨dst, .call ⟨.builtin .append, #[s, x], #[t, t]⟩, ty, pos, aft, gd⟩).run P w = .ok (.value v) w' := by
    intro v w' h
    unfold execOp
    simp only [resolve, invoke, builtin, Sem.run_bind, Sem.run_pure, Result.andThen_ok, List.map_toArray, List.map_cons, List.map_nil, hρ _ _ hs, hρ _ _ hx, h]
  have main : ∃ v' w', (Builtin.append_ #[t, t] ty #[.slice a xs.length cap, .slice a2 ys.length cap2]).run P w = .ok v' w' ∧ w'.ownsRow 0 E.T E.m v' (xs.length + ys.length) (E.all xs ++ E.all ys) ∧ w.grownBy w' (Value.slice a xs.length cap).ownBlock ∧ (∀ k, v'.ownBlock = some k → a = some ⟨k, 0, none⟩ ∨ w.heap.size ≤ k) := by
    cases a2 with
    | none =>
      obtain ⟨h1, h2⟩ := hnil rfl
      have : ys = [] := List.eq_nil_of_length_eq_zero h1
      subst this
      subst h2
      refine ⟨_, w, run_append_owned_none (P := P) w 0 t ty E.T i' E.m hu hi' _ xs.length (E.all xs) hown, by simpa [Enc.all] using hown, ⟨rfl, rfl, rfl, Nat.le_refl _, fun _ _ _ => rfl⟩, ?_⟩
      intro k hk
      rcases hown.2 with ⟨h1, h0⟩ | ⟨g, cap', cur, h1, _, hg, _⟩
      · rw [h1] at hk; simp [Value.ownBlock] at hk
      · simp only [Value.slice.injEq] at h1
        obtain ⟨rfl, _, _⟩ := h1
        simp [Value.ownBlock] at hk
        left; rw [hk]
    | some p =>
      have hnews : ∀ j u, (E.all ys)[j]? = some u → w.cell? (p.add j) = some u := by
        intro j u hj
        rcases hi.out _ hw with h0 | ⟨b, off, C, T, fz, hp, hb, hc⟩
        · subst h0; simp [Enc.all] at hj
        · cases hp
          have := hc j u hj
          rw [cell?_eq]
          have e : (⟨b, off, none⟩ : Addr).add j = ⟨b, off + j, none⟩ := by unfold Addr.add; split <;> simp_all
          rw [e]
          simp [cellH, hb, this]
      obtain ⟨v', w', hr, ho, hg, _⟩ := run_append_own (P := P) w 0 t ty E.T i' z E.m i'.bytes hu hi' hz' hm.symm rfl (by rw [hzc, hm]) (by rw [hm]; exact hpos) _ xs.length (E.all xs) hown p ys.length cap2 (E.all ys) (E.all_len ys) hnews (E.all_one ys) (by unfold maxLen; omega) hsmall (Nat.zero_le _)
      refine ⟨v', w', hr, ho, hg, ?_⟩
      intro k hk
      by_cases hkn : w.heap.size ≤ k
      · exact .inr hkn
      · left
        rcases hown.2 with ⟨h1, h0⟩ | ⟨g, cap', cur, h1, _, hg', hnc, hcm, hcs, htk⟩
        · simp only [Value.slice.injEq] at h1
          obtain ⟨rfl, h00, rfl⟩ := h1
          by_cases hm0 : ys.length = 0
          · have hy0 : ys = [] := List.eq_nil_of_length_eq_zero hm0
            subst hy0
            rw [h00] at hr
            have hr2 : (Builtin.append_ #[t, t] ty #[.slice none 0 0, .slice (some p) 0 cap2]).run P w = .ok (.slice none 0 0) w := by
              simp [Builtin.append_, run_underlying hu, sizeOf, typeInfo, hi', Builtin.lenOf, Builtin.firstCells, loadCells, loadCellsFrom]
            simp only [List.length_nil] at hr
            rw [hr2] at hr
            cases hr
            simp [Value.ownBlock] at hk
          · have hr2 := run_append_nil (P := P) w t ty E.T i' z hu hi' hz' p ys.length cap2 (E.all ys) (by rw [E.all_len, hm]) hnews (by omega) (by omega) (by rw [h00] at hsmall; simp at hsmall; omega)
            rw [h00] at hr
            rw [hr2] at hr
            cases hr
            simp [Value.ownBlock] at hk
            omega
        · simp only [Value.slice.injEq] at h1
          obtain ⟨rfl, _, rfl⟩ := h1
          by_cases hroom : xs.length + ys.length ≤ cap
          · have hfit : xs.length * i'.size + (E.all ys).length ≤ cur.size := by
              rw [E.all_len, hcs, hm, ← Nat.add_mul]; exact Nat.mul_le_mul_right _ hroom
            have hr2 := run_append_room (P := P) w t ty E.T i' hu hi' g xs.length cap cur hg' p ys.length cap2 (E.all ys) (by rw [E.all_len, hm]) hnews (E.all_one ys) hroom hfit
            rw [hr2] at hr
            cases hr
            simp [Value.ownBlock] at hk
            rw [hk]
          · have holds : ∀ j u, (E.all xs)[j]? = some u → w.cell? ((⟨g, 0, none⟩ : Addr).add j) = some u := hown.cells (g := g) rfl
            have hr2 := run_append_grow (P := P) w t ty E.T i' z hu hi' hz' ⟨g, 0, none⟩ xs.length cap (E.all xs) (by rw [E.all_len, hm]) holds p ys.length cap2 (E.all ys) (by rw [E.all_len, hm]) hnews (by omega) (by omega) (growslice_fits (by omega) hsmall)
            rw [hr2] at hr
            cases hr
            simp [Value.ownBlock] at hk
            omega
  obtain ⟨v', w', hr, ho, hg, hblk⟩ := main
  rw [← E.all_append] at ho
  obtain ⟨a', cap', rfl, h1, s1, l1, d1⟩ := owns_sl (by simp) ho
  refine ⟨_, w', _, hcall _ _ hr, ⟨a', cap', by simp, rfl⟩, by unfold env; rw [hg.os, hg.tape, hg.output], ?_⟩
  refine Sat.frameRep (hh.out _) hw fun k1 hA hl1 => ⟨h1, s1, l1, ?_, ?_⟩
  · intro b hb
    have := d1 b hb
    subst this
    rcases hblk b rfl with h | h
    · left
      rcases sl_iff.1 hA with ⟨h', _, _⟩ | ⟨b', spare, h', _, _, _, hb'⟩
      · rw [h'] at h; cases h
      · rw [h'] at h; simp at h; subst h; rw [hb']; simp
    · right; unfold hp; simp; omega
  · intro b o hb hno
    have hlt : b < w.heap.size := (Array.getElem?_eq_some_iff.1 hb).1
    have := hg.block b hlt (by
      intro h
      rcases sl_iff.1 hA with ⟨h', _, _⟩ | ⟨b', spare, h', _, _, _, hb'⟩
      · rw [h'] at h; simp [Value.ownBlock] at h
      · rw [h'] at h; simp [Value.ownBlock] at h; subst h; rw [hb'] at hno; cases hno)
    unfold hp at *
    rw [this]; exact hb

theorem mod_block (n m : Nat) (z : Array Value) (hz : z.size = m) (hm : 0 < m) (zs : List Value) (hzs : z.toList = zs) : (madeCells z (n * m)).toList = (List.replicate n zs).flatten := by
  subst hzs
  apply List.ext_getElem?
  intro i
  have hlen : (List.replicate n z.toList).flatten.length = n * m := by simp [hz]
  by_cases hi : i < n * m
  · have hq : i / m < n := Nat.div_lt_of_lt_mul (by rw [Nat.mul_comm]; exact hi)
    have hr : i % m < m := Nat.mod_lt _ hm
    have e1 : (madeCells z (n * m)).toList[i]? = z.toList[i % m]? := by
      have h2 : i % z.size < z.size := by rw [hz]; exact hr
      simp [madeCells, hi, hz, getElem!_pos z (i % m) (by rw [hz]; exact hr)]
    rw [e1]
    clear e1 hlen
    induction n generalizing i with
    | zero => omega
    | succ n ih =>
      rw [List.replicate_succ, List.flatten_cons]
      by_cases hlt : i < m
      · rw [List.getElem?_append_left (by simpa [hz] using hlt), Nat.mod_eq_of_lt hlt]
      · have hge : m ≤ i := by omega
        rw [List.getElem?_append_right (by simpa [hz] using hge)]
        have hlt2 : i - m < n * m := by rw [Nat.add_mul] at hi; omega
        have hd : (i - m) / m = i / m - 1 := by
          have : i / m = (i - m) / m + 1 := by
            have h5 : i = (i - m) + m := by omega
            conv => lhs; rw [h5]
            rw [Nat.add_div_right _ hm]
          rw [this]; exact (Nat.add_sub_cancel _ 1).symm
        have := ih (i - m) hlt2 (by
          rw [hd]
          have : 0 < i / m := Nat.div_pos hge hm
          omega) (Nat.mod_lt _ hm)
        rw [Nat.mod_eq_sub_mod hge, this]
        simp [hz]
  · rw [List.getElem?_eq_none (by simp [size_madeCells]; omega), List.getElem?_eq_none (by omega)]

theorem Eff.make {α : Type} (E : Enc α) (x0 : α) {t e m by_ n : Nat} {z : Value} [ha : SlT P t e m by_ z] {l cp : Operand} {kl kc : IntKind} (hl : ev F l = some (.int kl n)) (hc : ev F cp = some (.int kc n))
    (hT : E.T = e) (hm : E.m = m) (hz : z.cells.toList = E.enc x0) (hpos : 0 < m) (hb : n * by_ ≤ 140737488355328) (hn : n ≤ 140737488355328) :
    Eff P F L ⟨dst, .makeSlice t l cp, ty, pos, aft, gd⟩ (fun u M => ∃ b, u = .slice (some ⟨b, 0, none⟩) n n ∧ M = sl E (some ⟨b, 0, none⟩) n (List.replicate n x0) :: L) := Eff.of_run fun ρ w hρ hs => by
  obtain ⟨i', hu, hi', hz', rfl, rfl, hzc⟩ := sltB_spec ha.out
  subst hT
  have hr := run_make (P := P) w t E.T i' z hu hi' hz' kl kc n n (by omega) (by omega) (by
    have : (i'.bytes : Int) * (n : Int) = ((n * i'.bytes : Nat) : Int) := by rw [Int.mul_comm]; simp
    rw [this]; omega) (by omega)
  simp only [Int.toNat_natCast] at hr
  refine ⟨.slice (some ⟨w.heap.size, 0, none⟩) n n, w.alloc (.cells (madeCells z.cells (n * i'.size)) E.T), _, ?_, ⟨w.heap.size, rfl, rfl⟩, rfl, ?_⟩
  · have he : execOp ρ ⟨dst, .makeSlice t l cp, ty, pos, aft, gd⟩ = (do pure (.value (← Instr.makeSlice t (ρ l) (ρ cp)))) := rfl
    rw [he, Sem.run_bind, hρ _ _ hl, hρ _ _ hc, hr]
    rfl
  · have hpush : hp (w.alloc (.cells (madeCells z.cells (n * i'.size)) E.T)) = Hp.upd (hp w) w.heap.size (.cells (madeCells z.cells (n * i'.size)) E.T) := hp_push w _
    rw [hpush]
    refine (Sat.new (hp_size w) hs).cons_imp (fun h hh => ?_) (fun _ h => h)
    rw [blk_iff] at hh
    refine sl_iff.2 (.inr ⟨w.heap.size, [], rfl, by simp, by unfold maxLen; omega, by simp, ?_⟩)
    have e1 : E.all (List.replicate n x0) = (madeCells z.cells (n * i'.size)).toList := by
      rw [mod_block n i'.size z.cells hzc hpos _ hz]
      simp [Enc.all, List.flatMap]
    rw [e1]
    simpa using hh
end
end Go.KK
