/-
  A part of the proof of the claim that this folder bears.
-/
import Derived.Test.YtnhippfllgnngaaKA
import Derived.Laws.OwnMore
import Derived.IntWalk
import Derived.ProofKit
import Derived.Deep.Slices
import Derived.Deep.Fields
import Derived.ChangeSame
import Derived.Laws.StructEq
/- The text K9. -/
set_option linter.unusedVariables false
set_option linter.unusedSimpArgs false
namespace Go.KK

/-- Where a block, a slice stands in a list of assertions, and the list with another one there. -/
class BlkH (L : List Asn) (b : Nat) (o : outParam Obj) (f : outParam (Obj → List Asn)) : Prop where
  out : ∀ o', Rep (blk b o) (blk b o') L (f o')
instance BlkH.head {L : List Asn} {b : Nat} {o : Obj} : BlkH (blk b o :: L) b o (fun o' => blk b o' :: L) := ⟨fun _ => .head⟩
instance (priority := 900) BlkH.tail {A : Asn} {L : List Asn} {b : Nat} {o : Obj} {f : Obj → List Asn} [h : BlkH L b o f] : BlkH (A :: L) b o (fun o' => A :: f o') := ⟨fun o' => .tail (h.out o')⟩
class SlH {α : outParam Type} (E : outParam (Enc α)) (L : List Asn) (a : Option Addr) (cap : outParam Nat) (xs : outParam (List α)) (f : outParam (Asn → List Asn)) : Prop where
  out : ∀ B, Rep (sl E a cap xs) B L (f B)
instance SlH.head {α : Type} {E : Enc α} {L : List Asn} {a : Option Addr} {cap : Nat} {xs : List α} : SlH E (sl E a cap xs :: L) a cap xs (fun B => B :: L) := ⟨fun _ => .head⟩
instance (priority := 900) SlH.tail {α : Type} {E : Enc α} {A : Asn} {L : List Asn} {a : Option Addr} {cap : Nat} {xs : List α} {f : Asn → List Asn} [h : SlH E L a cap xs f] : SlH E (A :: L) a cap xs (fun B => A :: f B) := ⟨fun B => .tail (h.out B)⟩

theorem SlH.slIn {α : Type} {E : Enc α} {L : List Asn} {a : Option Addr} {cap : Nat} {xs : List α} {f : Asn → List Asn} (h : SlH E L a cap xs f) : SlIn E L a xs := ⟨fun hh hs => by
  obtain ⟨h1, l, s⟩ := Sat.memRep (h.out (sl E a cap xs)) hs
  exact (sl.slR s).mono l⟩

section
variable {P : Program} {F : Fr} {L : List Asn} {dst : Option Tmp} {ty : TypeId} {pos : String} {aft : Array Edge} {gd : Option (Nat × Bool)}

theorem Eff.storeB {t : Nat} [h1 : One P t] {x y : Operand} {b k : Nat} {v : Value} {cs cs' : List Value} {T : TypeId} {f : Obj → List Asn}
    (hx : ev F x = some (.pointer (some ⟨b, k, none⟩))) (hy : ev F y = some v) (hv : v.oneCell' = true) [hb : BlkH L b (.cells cs.toArray T (0, 0)) f] (hset : SetAt v cs k cs') :
    Eff P F L ⟨dst, .store t x y, ty, pos, aft, gd⟩ (fun u M => u = undef ∧ M = f (.cells cs'.toArray T (0, 0))) :=
  Eff.store (p := ⟨b, k, none⟩) hx hy hv rfl rfl hset (hb.out _)

theorem Eff.storeS {α : Type} {E : Enc α} {t m : Nat} [h1 : One P t] {x y : Operand} {v : Value} {a : Option Addr} {cap i k : Nat} {xs : List α} {z z' : α} {f : Asn → List Asn}
    (hx : ev F x = some (.pointer (some ⟨(el a m i).block, (el a m i).off + k, none⟩))) (hy : ev F y = some v) (hv : v.oneCell' = true) [hs : SlH E L a cap xs f] (hm : E.m = m)
    (hz : xs[i]? = some z) (hset : SetAt v (E.enc z) k (E.enc z')) :
    Eff P F L ⟨dst, .store t x y, ty, pos, aft, gd⟩ (fun u M => u = undef ∧ M = f (sl E a cap (xs.set i z'))) := by
  subst hm
  exact Eff.storeEl hx hy hv rfl hz hset (hs.out _)
theorem Eff.storeS0 {α : Type} {E : Enc α} {t m : Nat} [h1 : One P t] {x y : Operand} {v : Value} {a : Option Addr} {cap i : Nat} {xs : List α} {z z' : α} {f : Asn → List Asn}
    (hx : ev F x = some (.pointer (some (el a m i)))) (hy : ev F y = some v) (hv : v.oneCell' = true) [hs : SlH E L a cap xs f] (hm : E.m = m)
    (hz : xs[i]? = some z) (hset : SetAt v (E.enc z) 0 (E.enc z')) :
    Eff P F L ⟨dst, .store t x y, ty, pos, aft, gd⟩ (fun u M => u = undef ∧ M = f (sl E a cap (xs.set i z'))) := by
  subst hm
  exact Eff.storeEl hx hy hv rfl hz hset (hs.out _)

theorem sl_owns {α : Type} {E : Enc α} {a : Option Addr} {cap : Nat} {xs : List α} {h1 : Hp} {w : World} (hs : sl E a cap xs h1) (hl : Hp.le h1 (hp w)) : w.ownsRow 0 E.T E.m (.slice a xs.length cap) xs.length (E.all xs) := by
  refine ⟨E.all_len xs, ?_⟩
  rcases sl_iff.1 hs with ⟨rfl, rfl, rfl⟩ | ⟨b, spare, rfl, q1, q2, q3, hb⟩
  · exact .inl ⟨rfl, rfl⟩
  · refine .inr ⟨b, cap, _, rfl, Nat.zero_le _, hl _ _ hb, q1, q2, ?_, ?_⟩
    · simp [E.all_len, q3]; rw [← Nat.add_mul]; congr 1; omega
    · simp only []
      rw [← E.all_len xs]; exact List.take_left

theorem owns_sl {α : Type} {E : Enc α} {v : Value} {xs : List α} {w : World} {n : Nat} (hn : n = xs.length) (ho : w.ownsRow 0 E.T E.m v n (E.all xs)) :
    ∃ a cap, v = .slice a xs.length cap ∧ ∃ h1, sl E a cap xs h1 ∧ Hp.le h1 (hp w) ∧ (∀ b, h1 b ≠ none → a = some ⟨b, 0, none⟩) := by
  subst hn
  rcases ho.2 with ⟨rfl, h0⟩ | ⟨g, cap, cur, rfl, _, hg, hnc, hcm, hsz, htk⟩
  · have : xs = [] := List.eq_nil_of_length_eq_zero h0
    subst this
    exact ⟨none, 0, rfl, fun _ => none, sl_iff.2 (.inl ⟨rfl, rfl, rfl⟩), (fun _ _ h => (by cases h)), fun _ h => absurd rfl h⟩
  · refine ⟨some ⟨g, 0, none⟩, cap, rfl, fun b => if b = g then some (.cells cur E.T (0, 0)) else none, sl_iff.2 (.inr ⟨g, cur.toList.drop (xs.length * E.m), rfl, hnc, hcm, ?_, ?_⟩), ?_, ?_⟩
    · simp [hsz, Nat.sub_mul]
    · simp only [if_true, Option.some.injEq]
      rw [← htk, List.take_append_drop]
    · intro b o hb
      by_cases e : b = g
      · subst e; simp at hb; subst hb; exact hg
      · simp [e] at hb
    · intro b hb
      by_cases e : b = g
      · rw [e]
      · simp [e] at hb

theorem Eff.append {α : Type} {E : Enc α} {t e m by_ : Nat} {z : Value} [ha : SlT P t e m by_ z] {s x : Operand} {a a2 : Option Addr} {n cap n2 cap2 : Nat} {xs ys : List α} {f : Asn → List Asn}
    (hs : ev F s = some (.slice a n cap)) (hx : ev F x = some (.slice a2 n2 cap2)) [hh : SlH E L a cap xs f] [hi : SlIn E L a2 ys] (hT : E.T = e) (hm : E.m = m) (hn : n = xs.length) (hn2 : n2 = ys.length)
    (hpos : 0 < m) (hsmall : (xs.length + ys.length) * by_ ≤ 140737488355328) (hmax : xs.length + ys.length ≤ 140737488355328) (hnil : a2 = none → n2 = 0 ∧ cap2 = 0) :
    Eff P F L ⟨dst, .call ⟨.builtin .append, #[s, x], #[t, t]⟩, ty, pos, aft, gd⟩ (fun u M => ∃ a' cap', u = .slice a' (xs.length + ys.length) cap' ∧ M = f (sl E a' cap' (xs ++ ys))) := Eff.of_run fun ρ w hρ hw => by
  obtain ⟨i', hu, hi', hz', rfl, rfl, hzc⟩ := sltB_spec ha.out
  subst hT; subst hn; subst hn2
  obtain ⟨h0, l0, s0⟩ := Sat.memRep (hh.out (sl E a cap xs)) hw
  have hown := sl_owns s0 l0
  have hcall : ∀ v w', (Builtin.append_ #[t, t] ty #[.slice a xs.length cap, .slice a2 ys.length cap2]).run P w = .ok v w' → (execOp ρ ⟨dst, .call ⟨.builtin .append, #[s, x], #[t, t]⟩, ty, pos, aft, gd⟩).run P w = .ok (.value v) w' := by
    intro v w' h
    unfold execOp
    simp only [resolve, invoke, builtin, Sem.run_bind, Sem.run_pure, Result.andThen_ok, List.map_toArray, List.map_cons, List.map_nil, hρ _ _ hs, hρ _ _ hx, h]
  have main : ∃ v' w', (Builtin.append_ #[t, t] ty #[.slice a xs.length cap, .slice a2 ys.length cap2]).run P w = .ok v' w' ∧ w'.ownsRow 0 E.T E.m v' (xs.length + ys.length) (E.all xs ++ E.all ys) ∧ w.grownBy w' (Value.slice a xs.length cap).ownBlock ∧ (∀ k, v'.ownBlock = some k → a = some ⟨k, 0, none⟩ ∨ w.heap.size ≤ k) := by
    cases a2 with
    | none =>
      obtain ⟨h1, h2⟩ := hnil rfl
      have : ys = [] := List.eq_nil_of_length_eq_zero h1
      subst this
      subst h2
      refine ⟨_, w, run_append_owned_none (P := P) w 0 t ty E.T i' E.m hu hi' _ xs.length (E.all xs) hown, by simpa [Enc.all] using hown, ⟨rfl, rfl, rfl, Nat.le_refl _, fun _ _ _ => rfl⟩, ?_⟩
      intro k hk
      rcases hown.2 with ⟨h1, h0⟩ | ⟨g, cap', cur, h1, _, hg, _⟩
      · rw [h1] at hk; simp [Value.ownBlock] at hk
      · simp only [Value.slice.injEq] at h1
        obtain ⟨rfl, _, _⟩ := h1
        simp [Value.ownBlock] at hk
        left; rw [hk]
    | some p =>
      have hnews : ∀ j u, (E.all ys)[j]? = some u → w.cell? (p.add j) = some u := by
        intro j u hj
        rcases hi.out _ hw with h0 | ⟨b, off, C, T, fz, hp, hb, hc⟩
        · subst h0; simp [Enc.all] at hj
        · cases hp
          have := hc j u hj
          rw [cell?_eq]
          have e : (⟨b, off, none⟩ : Addr).add j = ⟨b, off + j, none⟩ := by unfold Addr.add; split <;> simp_all
          rw [e]
          simp [cellH, hb, this]
      obtain ⟨v', w', hr, ho, hg, _⟩ := run_append_own (P := P) w 0 t ty E.T i' z E.m i'.bytes hu hi' hz' hm.symm rfl (by rw [hzc, hm]) (by rw [hm]; exact hpos) _ xs.length (E.all xs) hown p ys.length cap2 (E.all ys) (E.all_len ys) hnews (E.all_one ys) (by unfold maxLen; omega) hsmall (Nat.zero_le _)
      refine ⟨v', w', hr, ho, hg, ?_⟩
      intro k hk
      by_cases hkn : w.heap.size ≤ k
      · exact .inr hkn
      · left
        rcases hown.2 with ⟨h1, h0⟩ | ⟨g, cap', cur, h1, _, hg', hnc, hcm, hcs, htk⟩
        · simp only [Value.slice.injEq] at h1
          obtain ⟨rfl, h00, rfl⟩ := h1
          by_cases hm0 : ys.length = 0
          · have hy0 : ys = [] := List.eq_nil_of_length_eq_zero hm0
            subst hy0
            rw [h00] at hr
            have hr2 : (Builtin.append_ #[t, t] ty #[.slice none 0 0, .slice (some p) 0 cap2]).run P w = .ok (.slice none 0 0) w := by
              simp [Builtin.append_, run_underlying hu, sizeOf, typeInfo, hi', Builtin.lenOf, Builtin.firstCells, loadCells, loadCellsFrom]
            simp only [List.length_nil] at hr
            rw [hr2] at hr
            cases hr
            simp [Value.ownBlock] at hk
          · have hr2 := run_append_nil (P := P) w t ty E.T i' z hu hi' hz' p ys.length cap2 (E.all ys) (by rw [E.all_len, hm]) hnews (by omega) (by omega) (by rw [h00] at hsmall; simp at hsmall; omega)
            rw [h00] at hr
            rw [hr2] at hr
            cases hr
            simp [Value.ownBlock] at hk
            omega
        · simp only [Value.slice.injEq] at h1
          obtain ⟨rfl, _, rfl⟩ := h1
          by_cases hroom : xs.length + ys.length ≤ cap
          · have hfit : xs.length * i'.size + (E.all ys).length ≤ cur.size := by
              rw [E.all_len, hcs, hm, ← Nat.add_mul]; exact Nat.mul_le_mul_right _ hroom
            have hr2 := run_append_room (P := P) w t ty E.T i' hu hi' g xs.length cap cur hg' p ys.length cap2 (E.all ys) (by rw [E.all_len, hm]) hnews (E.all_one ys) hroom hfit
            rw [hr2] at hr
            cases hr
            simp [Value.ownBlock] at hk
            rw [hk]
          · have holds : ∀ j u, (E.all xs)[j]? = some u → w.cell? ((⟨g, 0, none⟩ : Addr).add j) = some u := hown.cells (g := g) rfl
            have hr2 := run_append_grow (P := P) w t ty E.T i' z hu hi' hz' ⟨g, 0, none⟩ xs.length cap (E.all xs) (by rw [E.all_len, hm]) holds p ys.length cap2 (E.all ys) (by rw [E.all_len, hm]) hnews (by omega) (by omega) (growslice_fits (by omega) hsmall)
            rw [hr2] at hr
            cases hr
            simp [Value.ownBlock] at hk
            omega
  obtain ⟨v', w', hr, ho, hg, hblk⟩ := main
  rw [← E.all_append] at ho
  obtain ⟨a', cap', rfl, h1, s1, l1, d1⟩ := owns_sl (by simp) ho
  refine ⟨_, w', _, hcall _ _ hr, ⟨a', cap', by simp, rfl⟩, by unfold env; rw [hg.os, hg.tape, hg.output], ?_⟩
  refine Sat.frameRep (hh.out _) hw fun k1 hA hl1 => ⟨h1, s1, l1, ?_, ?_⟩
  · intro b hb
    have := d1 b hb
    subst this
    rcases hblk b rfl with h | h
    · left
      rcases sl_iff.1 hA with ⟨h', _, _⟩ | ⟨b', spare, h', _, _, _, hb'⟩
      · rw [h'] at h; cases h
      · rw [h'] at h; simp at h; subst h; rw [hb']; simp
    · right; unfold hp; simp; omega
  · intro b o hb hno
    have hlt : b < w.heap.size := (Array.getElem?_eq_some_iff.1 hb).1
    have := hg.block b hlt (by
      intro h
      rcases sl_iff.1 hA with ⟨h', _, _⟩ | ⟨b', spare, h', _, _, _, hb'⟩
      · rw [h'] at h; simp [Value.ownBlock] at h
      · rw [h'] at h; simp [Value.ownBlock] at h; subst h; rw [hb'] at hno; cases hno)
    unfold hp at *
    rw [this]; exact hb

theorem mod_block (n m : Nat) (z : Array Value) (hz : z.size = m) (hm : 0 < m) (zs : List Value) (hzs : z.toList = zs) : (madeCells z (n * m)).toList = (List.replicate n zs).flatten := by
  subst hzs
  apply List.ext_getElem?
  intro i
  have hlen : (List.replicate n z.toList).flatten.length = n * m := by simp [hz]
  by_cases hi : i < n * m
  · have hq : i / m < n := Nat.div_lt_of_lt_mul (by rw [Nat.mul_comm]; exact hi)
    have hr : i % m < m := Nat.mod_lt _ hm
    have e1 : (madeCells z (n * m)).toList[i]? = z.toList[i % m]? := by
      have h2 : i % z.size < z.size := by rw [hz]; exact hr
      simp [madeCells, hi, hz, getElem!_pos z (i % m) (by rw [hz]; exact hr)]
    rw [e1]
    clear e1 hlen
    induction n generalizing i with
    | zero => omega
    | succ n ih =>
      rw [List.replicate_succ, List.flatten_cons]
      by_cases hlt : i < m
      · rw [List.getElem?_append_left (by simpa [hz] using hlt), Nat.mod_eq_of_lt hlt]
      · have hge : m ≤ i := by omega
        rw [List.getElem?_append_right (by simpa [hz] using hge)]
        have hlt2 : i - m < n * m := by rw [Nat.add_mul] at hi; omega
        have hd : (i - m) / m = i / m - 1 := by
          have : i / m = (i - m) / m + 1 := by
            have h5 : i = (i - m) + m := by omega
            conv => lhs; rw [h5]
            rw [Nat.add_div_right _ hm]
          rw [this]; exact (Nat.add_sub_cancel _ 1).symm
        have := ih (i - m) hlt2 (by
          rw [hd]
          have : 0 < i / m := Nat.div_pos hge hm
          omega) (Nat.mod_lt _ hm)
        rw [Nat.mod_eq_sub_mod hge, this]
        simp [hz]
  · rw [List.getElem?_eq_none (by simp [size_madeCells]; omega), List.getElem?_eq_none (by omega)]

theorem Eff.make {α : Type} (E : Enc α) (x0 : α) {t e m by_ n : Nat} {z : Value} [ha : SlT P t e m by_ z] {l cp : Operand} {kl kc : IntKind} (hl : ev F l = some (.int kl n)) (hc : ev F cp = some (.int kc n))
    (hT : E.T = e) (hm : E.m = m) (hz : z.cells.toList = E.enc x0) (hpos : 0 < m) (hb : n * by_ ≤ 140737488355328) (hn : n ≤ 140737488355328) :
    Eff P F L ⟨dst, .makeSlice t l cp, ty, pos, aft, gd⟩ (fun u M => ∃ b, u = .slice (some ⟨b, 0, none⟩) n n ∧ M = sl E (some ⟨b, 0, none⟩) n (List.replicate n x0) :: L) := Eff.of_run fun ρ w hρ hs => by
  obtain ⟨i', hu, hi', hz', rfl, rfl, hzc⟩ := sltB_spec ha.out
  subst hT
  have hr := run_make (P := P) w t E.T i' z hu hi' hz' kl kc n n (by omega) (by omega) (by
    have : (i'.bytes : Int) * (n : Int) = ((n * i'.bytes : Nat) : Int) := by rw [Int.mul_comm]; simp
    rw [this]; omega) (by omega)
  simp only [Int.toNat_natCast] at hr
  refine ⟨.slice (some ⟨w.heap.size, 0, none⟩) n n, w.alloc (.cells (madeCells z.cells (n * i'.size)) E.T), _, ?_, ⟨w.heap.size, rfl, rfl⟩, rfl, ?_⟩
  · have he : execOp ρ ⟨dst, .makeSlice t l cp, ty, pos, aft, gd⟩ = (do pure (.value (← Instr.makeSlice t (ρ l) (ρ cp)))) := rfl
    rw [he, Sem.run_bind, hρ _ _ hl, hρ _ _ hc, hr]
    rfl
  · have hpush : hp (w.alloc (.cells (madeCells z.cells (n * i'.size)) E.T)) = Hp.upd (hp w) w.heap.size (.cells (madeCells z.cells (n * i'.size)) E.T) := hp_push w _
    rw [hpush]
    refine (Sat.new (hp_size w) hs).cons_imp (fun h hh => ?_) (fun _ h => h)
    rw [blk_iff] at hh
    refine sl_iff.2 (.inr ⟨w.heap.size, [], rfl, by simp, by unfold maxLen; omega, by simp, ?_⟩)
    have e1 : E.all (List.replicate n x0) = (madeCells z.cells (n * i'.size)).toList := by
      rw [mod_block n i'.size z.cells hzc hpos _ hz]
      simp [Enc.all, List.flatMap]
    rw [e1]
    simpa using hh
end
end Go.KK

/- The text K10. -/
set_option linter.unusedVariables false
set_option linter.unusedSimpArgs false
namespace Go.KK

theorem get_split {F : Fr} {t : Nat} {b : Bool} (ht : get F t = some (.bool b)) {n : Nat} {a : Act} (hF : OkF n F a) : OkF n ((t, .bool b) :: F) a :=
  ⟨hF.size, hF.nodef, fun s v hv => by
    simp only [get] at hv
    cases hb : Nat.beq t s with
    | true => rw [hb] at hv; simp at hv; subst hv; have := Nat.eq_of_beq_eq_true hb; subst this; exact hF.val _ _ ht
    | false => rw [hb] at hv; exact hF.val _ _ hv⟩

theorem get_set {F : Fr} {t : Nat} {u : Value} (ht : get F t = some u) {n : Nat} {a : Act} (hF : OkF n F a) : OkF n ((t, u) :: F) a :=
  ⟨hF.size, hF.nodef, fun s v hv => by
    simp only [get] at hv
    cases hb : Nat.beq t s with
    | true => rw [hb] at hv; simp at hv; subst hv; have := Nat.eq_of_beq_eq_true hb; subst this; exact hF.val _ _ ht
    | false => rw [hb] at hv; exact hF.val _ _ hv⟩

section rules
variable {c : Cx} {F : Fr} {L Lk : List Asn} {k : List Item} {ops rest : List Oper} {fuel : Nat} {is : List Nat}

theorem J.splitB {b : Bool} (t : Nat) (ht : get F t = some (.bool b)) (h1 : b = true → J c ((t, .bool true) :: F) L k) (h2 : b = false → J c ((t, .bool false) :: F) L k) : J c F L k := fun a w hF hs => by
  cases b
  · exact h2 rfl a w (get_split ht hF) hs
  · exact h1 rfl a w (get_split ht hF) hs
theorem JO.splitB {b : Bool} (t : Nat) (ht : get F t = some (.bool b)) (h1 : b = true → JO c ops ((t, .bool true) :: F) L rest k) (h2 : b = false → JO c ops ((t, .bool false) :: F) L rest k) : JO c ops F L rest k := fun a w hF hs => by
  cases b
  · exact h2 rfl a w (get_split ht hF) hs
  · exact h1 rfl a w (get_split ht hF) hs
theorem JQ.splitB {b : Bool} (t : Nat) (ht : get F t = some (.bool b)) (h1 : b = true → JQ c ops ((t, .bool true) :: F) L rest k) (h2 : b = false → JQ c ops ((t, .bool false) :: F) L rest k) : JQ c ops F L rest k := fun a w hF => by
  cases b
  · exact h2 rfl a w (get_split ht hF)
  · exact h1 rfl a w (get_split ht hF)

/-- A slot's value, spelled otherwise. -/
theorem J.setv {u u' : Value} (t : Nat) (ht : get F t = some u) (e : u = u') (h : J c ((t, u') :: F) L k) : J c F L k := fun a w hF hs => h a w (get_set (e ▸ ht) hF) hs
theorem JO.setv {u u' : Value} (t : Nat) (ht : get F t = some u) (e : u = u') (h : JO c ops ((t, u') :: F) L rest k) : JO c ops F L rest k := fun a w hF hs => h a w (get_set (e ▸ ht) hF) hs
theorem JQ.setv {u u' : Value} (t : Nat) (ht : get F t = some u) (e : u = u') (h : JQ c ops ((t, u') :: F) L rest k) : JQ c ops F L rest k := fun a w hF => h a w (get_set (e ▸ ht) hF)

theorem Picks.append {G H : Fr} (h1 : Picks F G) (h2 : Picks F H) : Picks F (G ++ H) := by
  induction h1 with
  | nil => exact h2
  | cons a b _ ih => exact .cons a b ih

/-- A loop: 'I i' is what its round turns, 'F0' what it leaves. -/
theorem J.loopF {x : Code} {ι : Type} (good : ι → Prop) (I : ι → Fr) (F0 : Fr) (H : ι → List Asn) (μ : ι → Nat) (i0 : ι) (hk : kind x = 6)
    (hF0 : Picks F F0) (hI : Picks F (I i0)) (hL : ∀ h, Sat h L → Sat h (H i0)) (hg : good i0)
    (body : ∀ i, good i → (∀ j, good j → μ j < μ i → J c (I j ++ F0) (H j) (.inLoop (cL x) :: k)) → J c (I i ++ F0) (H i) (.code (cL x) :: .inLoop (cL x) :: k)) :
    J c F L (.code x :: k) :=
  J.loop good (fun i => I i ++ F0) H μ i0 hk (hI.append hF0) hL hg body

/-- One piece of the list ahead. -/
inductive Pull (A : Asn) : List Asn → List Asn → Prop
  | head {L : List Asn} : Pull A (A :: L) L
  | tail {B : Asn} {L R : List Asn} : Pull A L R → Pull A (B :: L) (B :: R)
theorem Pull.perm {A : Asn} {L R : List Asn} (h : Pull A L R) : L.Perm (A :: R) := by
  induction h with
  | head => exact .refl _
  | @tail B L R _ ih => exact (ih.cons B).trans (.swap _ _ _)
theorem J.pull {A : Asn} {R : List Asn} (hp : Pull A L R) (h : J c F (A :: R) k) : J c F L k := J.perm hp.perm h
theorem JO.pull {A : Asn} {R : List Asn} (hp : Pull A L R) (h : JO c ops F (A :: R) rest k) : JO c ops F L rest k := JO.perm hp.perm h

/-- A callee's law on one assertion ahead, anywhere. -/
theorem CallS.at {P : Program} {fn : FuncId} {args : Array Value} {A : Asn} {Q : Value → Asn → Prop} {f : Asn → List Asn} (h : ∀ R, CallS P fn args (A :: R) (fun v M => ∃ B, Q v B ∧ M = B :: R)) (hr : ∀ B, Rep A B L (f B)) :
    CallS P fn args L (fun v M => ∃ B, Q v B ∧ M = f B) := fun w hs => by
  obtain ⟨R, p1, p2⟩ := (hr A).perm
  have hrep : ∀ B, ∃ R', L.Perm (A :: R') ∧ (f B).Perm (B :: R') := fun B => (hr B).perm
  refine (h R w (hs.perm p1)).mono fun e w' ⟨v, M, ⟨B, q, hm⟩, he, hs', hv⟩ => ⟨v, f B, ⟨B, q, rfl⟩, he, ?_, hv⟩
  subst hm
  obtain ⟨R', q1, q2⟩ := hrep B
  have : (A :: R).Perm (A :: R') := p1.symm.trans q1
  have h2 : R.Perm R' := (List.perm_cons A).1 this
  exact (hs'.perm (h2.cons B)).perm q2.symm

theorem wr64 {n : Int} (h : -9223372036854775808 ≤ n ∧ n ≤ 9223372036854775807) : IntKind.wrap .i64 n = n := IntWalk.i64_in n h
end rules
end Go.KK
namespace Go.KK
section
variable {c : Cx} {F : Fr} {L Lk : List Asn} {k : List Item}
end
end Go.KK

/- The text K11. -/
set_option linter.unusedVariables false
set_option linter.unusedSimpArgs false
namespace Go.KK
section
variable {P : Program} {F : Fr} {L : List Asn} {dst : Option Tmp} {ty : TypeId} {pos : String} {aft : Array Edge} {gd : Option (Nat × Bool)}

theorem Pur.idxA {t n e m : Nat} [ha : ArT P t n e m] {x ix : Operand} {b o : Nat} {kd : IntKind} {i : Int} {k : Nat} (hx : ev F x = some (.pointer (some ⟨b, o, none⟩))) (hi : ev F ix = some (.int kd i))
    (hik : i = (k : Int)) (hk : k < n) : Pur P F L ⟨dst, .indexAddr t x ix, ty, pos, aft, gd⟩ (.pointer (some ⟨b, o + k * m, none⟩)) := fun ρ w hρ _ => by
  have h := ha.out
  subst hik
  unfold artB at h
  split at h
  · rename_i n' e' hu
    split at h
    · rename_i i' hi'
      simp only [Option.some.injEq, Prod.mk.injEq] at h
      obtain ⟨rfl, rfl, rfl⟩ := h
      have h3 : (sizeOf e').run P w = .ok i'.size w := run_sizeOf_of (by simp [hi'])
      have h0 : (0 : Int) ≤ (k : Int) := by omega
      have h1 : (k : Int) < (n' : Int) := by omega
      simp [execOp, Instr.indexAt, hρ _ _ hx, hρ _ _ hi, asIntOf, hu, underlying, h1, h3, Instr.sureAddr, go_sem]
      intro hh; omega
    · cases h
  · cases h

theorem Eff.storeBA {t n : Nat} [h1 : Agg P t n] {x y : Operand} {b : Nat} {cs cs' : List Value} {T : TypeId} {f : Obj → List Asn}
    (hx : ev F x = some (.pointer (some ⟨b, 0, none⟩))) (hy : ev F y = some (.agg cs'.toArray)) [hb : BlkH L b (.cells cs.toArray T (0, 0)) f] (hl : cs.length = n) (hl' : cs'.length = n) (hv : cs'.all (·.oneCell') = true) :
    Eff P F L ⟨dst, .store t x y, ty, pos, aft, gd⟩ (fun u M => u = undef ∧ M = f (.cells cs'.toArray T (0, 0))) := Eff.of_skip fun ρ w hρ hs => by
  have hr := hb.out (.cells cs'.toArray T (0, 0))
  obtain ⟨R, p1, p2⟩ := hr.perm
  have hs1 := hs.perm p1
  have hbw : hp w b = some (.cells cs.toArray T (0, 0)) := BlkIn.head.out _ hs1
  have hst := run_storeVar_row (P := P) w b T t cs.toArray cs'.toArray hbw (by rw [h1.size]; simp [hl']) (by simp [hl, hl']) (by simpa using hv)
  refine ⟨w.setRow b cs'.toArray, f (.cells cs'.toArray T (0, 0)), ?_, ⟨rfl, rfl⟩, rfl, ?_⟩
  · have he : execOp ρ ⟨dst, .store t x y, ty, pos, aft, gd⟩ = (do Instr.storeAt t (ρ x) (ρ y); pure .skip) := rfl
    rw [he, Sem.run_bind, hρ _ _ hx, hρ _ _ hy]
    have : (Instr.storeAt t (.pointer (some ⟨b, 0, none⟩)) (.agg cs'.toArray)).run P w = .ok () (w.setRow b cs'.toArray) := by
      simp only [Instr.storeAt, Instr.sureAddr, Sem.run_bind, Sem.run_pure, Result.andThen_ok]
      exact hst
    rw [this]; rfl
  · have e : hp (w.setRow b cs'.toArray) = Hp.upd (hp w) b (.cells cs'.toArray T (0, 0)) := by
      funext z
      unfold Hp.upd
      by_cases h : z = b
      · subst h; simp only [if_true]; exact setRow_heap w z cs.toArray _ T _ hbw
      · simp only [h, if_false]; exact setRow_other w b z _ h
    rw [e]
    exact Sat.perm p2.symm hs1.upd
end
end Go.KK

/- The text K12. -/
set_option linter.unusedVariables false
set_option linter.unusedSimpArgs false
namespace Go.KK

theorem Rep.same {A : Asn} {L M : List Asn} (h : Rep A A L M) : L = M := by
  induction h with
  | head => rfl
  | tail _ ih => exact congrArg _ ih

theorem hp_setRow (w : World) (b : Nat) (old cs : Array Value) (T : TypeId) (fz : Nat × Nat) (h : hp w b = some (.cells old T fz)) : hp (w.setRow b cs) = Hp.upd (hp w) b (.cells cs T fz) := by
  funext z
  unfold Hp.upd
  by_cases e : z = b
  · subst e; simp only [if_true]; exact setRow_heap w z old cs T fz h
  · simp only [e, if_false]; exact setRow_other w b z cs e

/-- A slice's array is written beyond what the slice shows, or anew: the law of its owner. -/
theorem sl_row {α : Type} {E : Enc α} {L : List Asn} {a : Option Addr} {cap : Nat} {xs ys : List α} {f : Asn → List Asn} {w : World} {b : Nat} {sp sp' : List Value} (hh : SlH E L a cap xs f) (hs : Sat (hp w) L) (ha : a = some ⟨b, 0, none⟩)
    (hb : hp w b = some (.cells (E.all xs ++ sp).toArray E.T (0, 0))) (hx : xs ≠ [] ∨ 0 < cap) (hle : ys.length ≤ cap) (hcap : cap ≤ maxLen) (hsp : sp'.length = (cap - ys.length) * E.m) :
    Sat (hp (w.setRow b (E.all ys ++ sp').toArray)) (f (sl E a cap ys)) := by
  subst ha
  rw [hp_setRow _ _ _ _ _ _ hb]
  refine Sat.frameRep (hh.out _) hs fun h1 hA hl1 => ?_
  rcases sl_iff.1 hA with ⟨hno, hc0, hx0⟩ | ⟨b', spare', ha', r1, r2, r3, hb'⟩
  · cases hno
  simp only [Option.some.injEq, Addr.mk.injEq, true_and, and_true] at ha'
  subst ha'
  refine ⟨Hp.upd h1 b (.cells (E.all ys ++ sp').toArray E.T (0, 0)), sl_iff.2 (.inr ⟨b, sp', rfl, hle, hcap, hsp, by simp [Hp.upd]⟩), ?_, ?_, ?_⟩
  · intro x o hxo
    unfold Hp.upd at *
    by_cases e : x = b
    · simpa [e] using hxo
    · simp only [e, if_false] at *; exact hl1 _ _ hxo
  · intro x hx'
    unfold Hp.upd at hx'
    by_cases e : x = b
    · left; rw [e, hb']; simp
    · left; simpa [e] using hx'
  · intro x o hxo hno
    unfold Hp.upd
    by_cases e : x = b
    · rw [e, hb'] at hno; cases hno
    · simpa [e] using hxo

theorem SlH.own {α : Type} {E : Enc α} {L : List Asn} {a : Option Addr} {cap : Nat} {xs : List α} {f : Asn → List Asn} (hh : SlH E L a cap xs f) {h : Hp} (hs : Sat h L) :
    (a = none ∧ cap = 0 ∧ xs = []) ∨ ∃ b sp, a = some ⟨b, 0, none⟩ ∧ xs.length ≤ cap ∧ cap ≤ maxLen ∧ sp.length = (cap - xs.length) * E.m ∧ h b = some (.cells (E.all xs ++ sp).toArray E.T (0, 0)) := by
  obtain ⟨h1, l, s⟩ := Sat.memRep (hh.out (sl E a cap xs)) hs
  rcases sl_iff.1 s with h0 | ⟨b, sp, e1, e2, e3, e4, e5⟩
  · exact .inl h0
  · exact .inr ⟨b, sp, e1, e2, e3, e4, l _ _ e5⟩

section
variable {P : Program} {F : Fr} {L : List Asn} {dst : Option Tmp} {ty : TypeId} {pos : String} {aft : Array Edge} {gd : Option (Nat × Bool)}

theorem Pur.slice0 {t e m by_ : Nat} {z : Value} [ha : SlT P t e m by_ z] {x y : Operand} {kd : IntKind} {a : Option Addr} {n cap h : Nat} {i : Int}
    (hx : ev F x = some (.slice a n cap)) (hy : ev F y = some (.int kd i)) (hi : i = (h : Int)) (h2 : h ≤ cap) :
    Pur P F L ⟨dst, .slice t x none (some y) none, ty, pos, aft, gd⟩ (.slice a h cap) := by
  subst hi
  have := Pur.slice (P := P) (F := F) (L := L) (dst := dst) (ty := ty) (pos := pos) (aft := aft) (gd := gd) (t := t) (lo := none) (hi := some y) (l := 0) (h := h) hx (.inl ⟨rfl, rfl⟩) (.inr ⟨_, _, rfl, hy⟩) (Nat.zero_le _) h2
  have e : (if cap = 0 then a else a.map (·.add (0 * m))) = a := by
    split
    · rfl
    · cases a <;> simp [Addr.add]
  rw [e] at this
  simpa using this

def tailA (a : Option Addr) (cap j m : Nat) : Option Addr := if cap = j then a else a.map (·.add (j * m))

theorem Pur.slice1 {t e m by_ : Nat} {z : Value} [ha : SlT P t e m by_ z] {x y : Operand} {kd : IntKind} {a : Option Addr} {n cap l : Nat} {i : Int}
    (hx : ev F x = some (.slice a n cap)) (hy : ev F y = some (.int kd i)) (hi : i = (l : Int)) (h1 : l ≤ n) (h2 : n ≤ cap) :
    Pur P F L ⟨dst, .slice t x (some y) none none, ty, pos, aft, gd⟩ (.slice (tailA a cap l m) (n - l) (cap - l)) := by
  subst hi
  exact Pur.slice (P := P) (F := F) (L := L) (dst := dst) (ty := ty) (pos := pos) (aft := aft) (gd := gd) (t := t) (lo := some y) (hi := none) (l := l) (h := n) hx (.inr ⟨_, _, rfl, hy⟩) (.inl ⟨rfl, rfl⟩) h1 h2
theorem Pur.slice2 {t e m by_ : Nat} {z : Value} [ha : SlT P t e m by_ z] {x y y' : Operand} {kd kd' : IntKind} {a : Option Addr} {n cap l h : Nat} {i j : Int}
    (hx : ev F x = some (.slice a n cap)) (hy : ev F y = some (.int kd i)) (hy' : ev F y' = some (.int kd' j)) (hi : i = (l : Int)) (hj : j = (h : Int)) (h1 : l ≤ h) (h2 : h ≤ cap) :
    Pur P F L ⟨dst, .slice t x (some y) (some y') none, ty, pos, aft, gd⟩ (.slice (tailA a cap l m) (h - l) (cap - l)) := by
  subst hi; subst hj
  exact Pur.slice (P := P) (F := F) (L := L) (dst := dst) (ty := ty) (pos := pos) (aft := aft) (gd := gd) (t := t) (lo := some y) (hi := some y') (l := l) (h := h) hx (.inr ⟨_, _, rfl, hy⟩) (.inr ⟨_, _, rfl, hy'⟩) h1 h2
theorem Pur.slice3 {t e m by_ : Nat} {z : Value} [ha : SlT P t e m by_ z] {x y y' y2 : Operand} {kd kd' kd2 : IntKind} {a : Option Addr} {n cap l h mx : Nat} {i j k : Int}
    (hx : ev F x = some (.slice a n cap)) (hy : ev F y = some (.int kd i)) (hy' : ev F y' = some (.int kd' j)) (hy2 : ev F y2 = some (.int kd2 k)) (hi : i = (l : Int)) (hj : j = (h : Int)) (hk : k = (mx : Int)) (h1 : l ≤ h) (h2 : h ≤ mx) (h3 : mx ≤ cap) :
    Pur P F L ⟨dst, .slice t x (some y) (some y') (some y2), ty, pos, aft, gd⟩ (.slice (tailA a mx l m) (h - l) (mx - l)) := fun ρ w hρ _ => by
  subst hi; subst hj; subst hk
  obtain ⟨i', hu, hi', hz', rfl, rfl, _⟩ := sltB_spec ha.out
  have hsz : (sizeOf e).run P w = .ok i'.size w := run_sizeOf_of (by simp [hi'])
  have hb0 : (Instr.sliceBound (ρ y2) cap .slice3Acap).run P w = .ok mx w := by
    have : (mx : Int) ≤ cap := by omega
    simp [Instr.sliceBound, hρ _ _ hy2, asIntOf, this, go_sem]
  have hb1 : (Instr.sliceBound (ρ y') mx .slice3B).run P w = .ok h w := by
    have : (h : Int) ≤ mx := by omega
    simp [Instr.sliceBound, hρ _ _ hy', asIntOf, this, go_sem]
  have hb2 : (Instr.sliceBound (ρ y) h .slice3C).run P w = .ok l w := by
    have : (l : Int) ≤ h := by omega
    simp [Instr.sliceBound, hρ _ _ hy, asIntOf, this, go_sem]
  simp [execOp, Instr.sliceAt, Instr.slice, Instr.sliceBounds, hρ _ _ hx, hu, underlying, hsz, hb0, hb1, hb2, tailA, go_sem]

theorem Eff.deleteApp {α : Type} {E : Enc α} {t e m by_ : Nat} {z : Value} [ha : SlT P t e m by_ z] {s x : Operand} {a : Option Addr} {cap i j n cap2 : Nat} {xs : List α} {f : Asn → List Asn}
    (hs : ev F s = some (.slice a i cap)) (hx : ev F x = some (.slice (tailA a cap j m) (n - j) cap2)) [hh : SlH E L a cap xs f] (hT : E.T = e) (hm : E.m = m) (hn : n = xs.length) (hij : i ≤ j) (hjn : j ≤ n) (hpos : 0 < n) :
    Eff P F L ⟨dst, .call ⟨.builtin .append, #[s, x], #[t, t]⟩, ty, pos, aft, gd⟩ (fun u M => u = .slice a (i + (n - j)) cap ∧ M = f (sl E a cap (xs.take i ++ xs.drop j))) := Eff.of_run fun ρ w hρ hw => by
  obtain ⟨i', hu, hi', hz', rfl, rfl, hzc⟩ := sltB_spec ha.out
  subst hT; subst hn
  rcases hh.own hw with ⟨_, _, h0⟩ | ⟨b, sp, rfl, q1, q2, q3, hb⟩
  · subst h0; simp at hpos
  have hall : E.all xs = E.all (xs.take j) ++ E.all (xs.drop j) := by rw [← E.all_append, List.take_append_drop]
  have hallj : (E.all (xs.take j)).length = j * E.m := by rw [E.all_len, List.length_take, Nat.min_eq_left hjn]
  have hallt : (E.all xs).take (i * E.m) = E.all (xs.take i) := by
    have : E.all xs = E.all (xs.take i) ++ E.all (xs.drop i) := by rw [← E.all_append, List.take_append_drop]
    rw [this, List.take_append_of_le_length (by rw [E.all_len, List.length_take, Nat.min_eq_left (by omega)]; exact Nat.le_refl _)]
    rw [List.take_of_length_le (by rw [E.all_len, List.length_take, Nat.min_eq_left (by omega)]; exact Nat.le_refl _)]
  have hd : (E.all (xs.drop j)).length = (xs.length - j) * i'.size := by rw [E.all_len, List.length_drop, hm]
  have hallx : (E.all xs).length = xs.length * E.m := E.all_len xs
  have hile : i * E.m ≤ xs.length * E.m := Nat.mul_le_mul_right _ (by omega)
  have hsum : i * E.m + (xs.length - j) * E.m ≤ xs.length * E.m := by rw [← Nat.add_mul]; exact Nat.mul_le_mul_right _ (by omega)
  -- the tail's address
  have hrun : ∃ p c', Value.slice (tailA (some ⟨b, 0, none⟩) cap j i'.size) (xs.length - j) cap2 = .slice (some p) (xs.length - j) c' ∧ (∀ k u, (E.all (xs.drop j))[k]? = some u → w.cell? (p.add k) = some u) := by
    unfold tailA
    by_cases hcj : cap = j
    · refine ⟨⟨b, 0, none⟩, cap2, by simp [hcj], ?_⟩
      intro k u hk
      have : xs.drop j = [] := List.drop_of_length_le (by omega)
      rw [this] at hk; simp [Enc.all] at hk
    · refine ⟨(⟨b, 0, none⟩ : Addr).add (j * i'.size), cap2, by simp [hcj], ?_⟩
      intro k u hk
      have hlt := (List.getElem?_eq_some_iff.1 hk).1
      have e1 : ((⟨b, 0, none⟩ : Addr).add (j * i'.size)).add k = ⟨b, j * i'.size + k, none⟩ := by
        unfold Addr.add; split <;> split <;> simp_all
      rw [e1, cell?_eq]
      have hlt2 : j * i'.size + k < (E.all xs).length := by
        rw [hall, List.length_append, hallj, hm]; omega
      simp only [cellH, hb, Option.isSome_none, Bool.false_eq_true, if_false, List.getElem?_toArray]
      rw [List.getElem?_append_left hlt2, hall, List.getElem?_append_right (by rw [hallj, hm]; omega), hallj, hm]
      simpa using hk
  obtain ⟨p, c', hval, hnews⟩ := hrun
  have hr := run_append_room (P := P) w t ty E.T i' hu hi' b i cap (E.all xs ++ sp).toArray hb p (xs.length - j) c' (E.all (xs.drop j)) hd hnews (E.all_one _) (by omega) (by
    rw [hd]; simp only [List.size_toArray, List.length_append, hallx]; rw [← hm]; omega)
  refine ⟨.slice (some ⟨b, 0, none⟩) (i + (xs.length - j)) cap, w.setRow b (E.all (xs.take i ++ xs.drop j) ++ (E.all xs ++ sp).drop (i * E.m + (xs.length - j) * E.m)).toArray, f (sl E (some ⟨b, 0, none⟩) cap (xs.take i ++ xs.drop j)), ?_, ⟨rfl, rfl⟩, rfl, ?_⟩
  · unfold execOp
    simp only [resolve, invoke, builtin, Sem.run_bind, Sem.run_pure, Result.andThen_ok, List.map_toArray, List.map_cons, List.map_nil, hρ _ _ hs, hρ _ _ hx, hval, hr]
    congr 3
    rw [hd, ← hm, E.all_append, ← hallt, List.take_append_of_le_length (by rw [hallx]; exact hile)]
  · refine sl_row hh hw rfl hb (.inr (by omega)) (by simp; omega) q2 ?_
    simp only [List.length_drop, List.length_append, List.length_take, hallx, q3]
    have e3 : xs.length * E.m + (cap - xs.length) * E.m = cap * E.m := by rw [← Nat.add_mul]; congr 1; omega
    have e4 : (cap - (i + (xs.length - j))) * E.m + (i * E.m + (xs.length - j) * E.m) = cap * E.m := by rw [← Nat.add_mul, ← Nat.add_mul]; congr 1; omega
    rw [e3, Nat.min_eq_left (by omega)]
    omega

theorem Eff.clearSpare {α : Type} {E : Enc α} {t e m by_ : Nat} {z : Value} [ha : SlT P t e m by_ z] {x : Operand} {a : Option Addr} {cap n k cap2 : Nat} {xs : List α} {f : Asn → List Asn}
    (hx : ev F x = some (.slice (tailA a cap n m) k cap2)) [hh : SlH E L a cap xs f] (hT : E.T = e) (hm : E.m = m) (hn : n = xs.length) (hk : n + k ≤ cap) (hone : ∀ v ∈ z.cells, v.oneCell' = true) :
    Eff P F L ⟨dst, .call ⟨.builtin .clear, #[x], #[t]⟩, ty, pos, aft, gd⟩ (fun u M => u = .tuple #[] ∧ M = f (sl E a cap xs)) := Eff.of_run fun ρ w hρ hw => by
  obtain ⟨i', hu, hi', hz', rfl, rfl, hzc⟩ := sltB_spec ha.out
  subst hT; subst hn
  have hsame : L = f (sl E a cap xs) := Rep.same (hh.out (sl E a cap xs))
  have hund : (underlying t).run P w = .ok (.slice E.T) w := run_underlying hu w
  by_cases hk0 : k = 0
  · subst hk0
    refine ⟨.tuple #[], w, _, ?_, ⟨rfl, rfl⟩, rfl, by rw [← hsame]; exact hw⟩
    unfold execOp
    simp only [resolve, invoke, builtin, Builtin.clear_, Sem.run_bind, Sem.run_pure, Result.andThen_ok, List.map_toArray, List.map_cons, List.map_nil, hρ _ _ hx]
    simp [hund]
    cases tailA a cap xs.length i'.size <;> simp
  rcases hh.own hw with ⟨_, h1, h0⟩ | ⟨b, sp, rfl, q1, q2, q3, hb⟩
  · omega
  have hcn : cap ≠ xs.length := by omega
  have hta : tailA (some ⟨b, 0, none⟩) cap xs.length i'.size = some ⟨b, xs.length * i'.size, none⟩ := by
    unfold tailA; rw [if_neg hcn]; simp only [Option.map_some, Option.some.injEq]; unfold Addr.add; split <;> simp_all
  have hzv : (zeroValue E.T).run P w = .ok z w := by simp [zeroValue, typeInfo, hi', hz', go_sem]
  have hzl : (Builtin.zeroCells z.cells k).toList.length = k * i'.size := by simp [size_zeroCells, hzc]
  have hone' : ∀ v ∈ (Builtin.zeroCells z.cells k).toList, v.oneCell' = true := by
    intro v hv
    simp only [Builtin.zeroCells, Array.toList_map, List.mem_map] at hv
    obtain ⟨i, hi, rfl⟩ := hv
    have : i % z.cells.size < z.cells.size := by
      refine Nat.mod_lt _ ?_
      rcases Nat.eq_zero_or_pos z.cells.size with h | h
      · simp [h] at hi
      · exact h
    rw [getElem!_pos z.cells _ this]
    exact hone _ (Array.getElem_mem this)
  have hkm : xs.length * i'.size + k * i'.size ≤ cap * i'.size := by rw [← Nat.add_mul]; exact Nat.mul_le_mul_right _ hk
  have hcs : (E.all xs ++ sp).length = cap * i'.size := by rw [List.length_append, E.all_len, q3, ← hm, ← Nat.add_mul]; congr 1; omega
  have hst := run_storeCells_at P b (xs.length * i'.size) E.T (Builtin.zeroCells z.cells k).toList 0 (E.all xs ++ sp).toArray w hb (by simp only [Nat.add_zero, hzl, List.size_toArray, hcs]; omega) hone'
  simp only [Nat.add_zero, hzl] at hst
  refine ⟨.tuple #[], w.setRow b (E.all xs ++ ((Builtin.zeroCells z.cells k).toList ++ (E.all xs ++ sp).drop (xs.length * i'.size + k * i'.size))).toArray, f (sl E (some ⟨b, 0, none⟩) cap xs), ?_, ⟨rfl, rfl⟩, rfl, ?_⟩
  · unfold execOp
    simp only [resolve, invoke, builtin, Builtin.clear_, Sem.run_bind, Sem.run_pure, Result.andThen_ok, List.map_toArray, List.map_cons, List.map_nil, hρ _ _ hx, hta]
    obtain ⟨k', rfl⟩ : ∃ k', k = k' + 1 := ⟨k - 1, by omega⟩
    simp [hund, hzv, hst]
    congr 1
    have : (E.all xs).length = xs.length * i'.size := by rw [E.all_len, hm]
    rw [← this, List.take_left]
  · refine sl_row hh hw rfl hb (.inr (by omega)) q1 q2 ?_
    simp only [List.length_append, hzl, List.length_drop, E.all_len, hm, q3]
    rw [← Nat.add_mul] at *
    rw [Nat.sub_mul]
    have e3 : xs.length * i'.size + (cap - xs.length) * i'.size = cap * i'.size := by rw [← Nat.add_mul]; congr 1; omega
    rw [Nat.add_mul] at *
    omega
end
end Go.KK

/- The text K13. -/
set_option linter.unusedVariables false
set_option linter.unusedSimpArgs false
namespace Go.KK

/-! A region that draws its order and ends in writes of what it has read: 'E' are the operations behind which the condition need not hold; what is taken first must come before each of them. -/
def closedB (ops : Array Oper) (listed : Array Bool) : Bool :=
  (List.range ops.size).all fun k => !listed.getD k true || match ops[k]? with
    | some o => o.after.all fun e => !Region.binds .any e || listed.getD e.on false
    | none => true
def ancB (ops : Array Oper) (i : Nat) : Nat → Nat → Bool
  | 0, _ => false
  | n + 1, k => match ops[k]? with
    | some o => o.after.any fun e => Region.binds .any e && (e.on == i || ancB ops i n e.on)
    | none => false

def Closed (ops : Array Oper) (listed : Array Bool) : Prop :=
  ∀ k o, ops[k]? = some o → listed.getD k true = true → ∀ e ∈ o.after, Region.binds .any e = true → listed.getD e.on false = true

theorem closed_of {ops : Array Oper} {listed : Array Bool} (h : closedB ops listed = true) : Closed ops listed := by
  intro k o hk hl e he hb
  have hlt : k < ops.size := (Array.getElem?_eq_some_iff.1 hk).1
  have h1 := List.all_eq_true.1 h k (List.mem_range.2 hlt)
  simp only [hl, Bool.not_true, Bool.false_or, hk] at h1
  have h2 := (Array.all_eq_true_iff_forall_mem.1 h1) e he
  simpa [hb] using h2

theorem anc_waits {ops : Array Oper} {listed : Array Bool} {i : Nat} (hc : Closed ops listed) (hi : listed.getD i false = false) :
    ∀ n k, ancB ops i n k = true → ∃ o, ops[k]? = some o ∧ ∃ e ∈ o.after, Region.binds .any e = true ∧ listed.getD e.on false = false := by
  intro n
  induction n with
  | zero => intro k h; simp [ancB] at h
  | succ n ih =>
    intro k h
    simp only [ancB] at h
    cases hk : ops[k]? with
    | none => simp [hk] at h
    | some o =>
      simp only [hk] at h
      obtain ⟨e, he, hh⟩ : ∃ e ∈ o.after, (Region.binds .any e && (e.on == i || ancB ops i n e.on)) = true := by
        obtain ⟨j, hj, hh⟩ := Array.any_eq_true.1 h
        exact ⟨_, Array.getElem_mem hj, hh⟩
      simp only [Bool.and_eq_true, Bool.or_eq_true, beq_iff_eq] at hh
      obtain ⟨hb, hh⟩ := hh
      refine ⟨o, rfl, ?_⟩
      rcases hh with rfl | hh
      · exact ⟨e, he, hb, hi⟩
      · obtain ⟨o2, ho2, e2, he2, hb2, hl2⟩ := ih e.on hh
        refine ⟨e, he, hb, ?_⟩
        cases hl : listed.getD e.on false with
        | false => rfl
        | true =>
          have hl' : listed.getD e.on true = true := by
            rw [Array.getD_eq_getD_getElem?] at hl ⊢
            cases hx : listed[e.on]? with
            | none => rfl
            | some b => simp [hx] at hl ⊢; exact hl
          have := hc e.on o2 ho2 hl' e2 he2 hb2
          rw [this] at hl2; cases hl2

section
variable {P : Program} {ops : Array Oper} {Q : Exit → Act → World → Prop} {S : World → Prop}

/-- One of the operations behind which the condition need not hold has come up. -/
def hit (E : List Nat) (l : Array Bool) : Prop := ∃ e ∈ E, l.getD e false = true
def wpAnyE (P : Program) (ops : Array Oper) (Q : Exit → Act → World → Prop) (S : World → Prop) (E : List Nat) : Nat → Array Bool → Act → World → Prop
  | 0, listed, a, w => Region.ready .any ops listed = [] ∧ Q .normal a w
  | fuel + 1, listed, a, w =>
    (Region.ready .any ops listed = [] → Q .normal a w) ∧
    ∀ i ∈ Region.ready .any ops listed, wpOp P ops Q i (fun a' w' => (hit E (listed.setIfInBounds i true) ∨ S w') ∧ wpAnyE P ops Q S E fuel (listed.setIfInBounds i true) a' w') a w

theorem wpAny_of_E {E : List Nat} : ∀ (fuel : Nat) (listed : Array Bool) (a : Act) (w : World), wpAnyE P ops Q S E fuel listed a w → wpAny P .any ops Q fuel listed a w
  | 0, _, _, _, h => h
  | fuel + 1, _, _, _, h => ⟨h.1, fun i hi => wpOp_mono (fun a' w' h' => wpAny_of_E fuel _ a' w' h'.2) (h.2 i hi)⟩

theorem closed_set {listed : Array Bool} {j : Nat} (hc : Closed ops listed) (hj : j ∈ Region.ready .any ops listed) : Closed ops (listed.setIfInBounds j true) := by
  intro k o hk hl e he hb
  obtain ⟨h0, oj, hoj, hall⟩ := mem_ready.1 hj
  by_cases hkj : k = j
  · subst hkj
    rw [hk] at hoj; cases hoj
    exact getD_set_true (hall e he hb)
  · rw [getD_set_ne true (Ne.symm hkj)] at hl
    exact getD_set_true (hc k o hk hl e he hb)

theorem wpAnyE_first {E : List Nat} {i n : Nat} {oi : Oper} {v : Value} (hi : ops[i]? = some oi) (hsel : ∀ (j : Nat) (o : Oper) cs b, ops[j]? = some o → o.op ≠ .select cs b)
    (hQ : ∀ c a w, Q (.panic c) (a.put oi.dst v) w → Q (.panic c) a w) (hE : ∀ e ∈ E, ancB ops i n e = true) :
    ∀ (fuel : Nat) (listed : Array Bool) (a : Act) (w : World), Closed ops listed →
      (∀ j oj, ops[j]? = some oj → j ≠ i → listed.getD j true = false → (∀ e ∈ oj.after, Region.binds .any e = true → e.on ≠ i) → oi.apart ops oj = true) →
      i ∈ Region.ready .any ops listed → YieldsIf P ops S oi v a → S w →
      wpAnyE P ops Q S E fuel (listed.setIfInBounds i true) (a.put oi.dst v) w → wpAnyE P ops Q S E (fuel + 1) listed a w := by
  intro fuel
  induction fuel with
  | zero =>
    intro listed a w _ _ hr hy hS H
    refine ⟨fun h => (by rw [h] at hr; cases hr), fun j hj => ?_⟩
    by_cases hji : j = i
    · subst hji; exact hy.wpOp hi hS ⟨.inr hS, H⟩
    · have := ready_mono hj hji
      rw [H.1] at this
      cases this
  | succ fuel ih =>
    intro listed a w hc hfree hr hy hS H
    refine ⟨fun h => (by rw [h] at hr; cases hr), fun j hj => ?_⟩
    by_cases hji : j = i
    · subst hji; exact hy.wpOp hi hS ⟨.inr hS, H⟩
    obtain ⟨hjun, oj, hoj, hall⟩ := mem_ready.1 hj
    have hi0 : listed.getD i true = false := (mem_ready.1 hr).1
    have hi1 : listed.getD i false = false := by
      rw [Array.getD_eq_getD_getElem?] at hi0 ⊢
      cases hx : listed[i]? with
      | none => rfl
      | some b => simp [hx] at hi0 ⊢; exact hi0
    have hnot : ∀ e ∈ oj.after, Region.binds .any e = true → e.on ≠ i := fun e he hb heq => by
      have h1 := hall e he hb
      rw [heq, hi1] at h1; cases h1
    have hnoE : ¬ hit E ((listed.setIfInBounds i true).setIfInBounds j true) := fun ⟨e, he, hl⟩ => by
      obtain ⟨o, ho, e2, he2, hb, hl2⟩ := anc_waits hc hi1 n e (hE e he)
      by_cases hej : e = j
      · subst hej
        rw [hoj] at ho; cases ho
        have := hall e2 he2 hb
        rw [this] at hl2; cases hl2
      · by_cases hei : e = i
        · subst hei
          obtain ⟨_, oi2, hoi2, hall2⟩ := mem_ready.1 hr
          rw [hoi2] at ho; cases ho
          have := hall2 e2 he2 hb
          rw [this] at hl2; cases hl2
        · rw [getD_set_ne false (Ne.symm hej), getD_set_ne false (Ne.symm hei)] at hl
          have hl' : listed.getD e true = true := by
            rw [Array.getD_eq_getD_getElem?] at hl ⊢
            cases hx : listed[e]? with
            | none => rfl
            | some b => simp [hx] at hl ⊢; exact hl
          have := hc e o ho hl' e2 he2 hb
          rw [this] at hl2; cases hl2
    have h1 := H.2 j (ready_mono hj hji)
    have h2 := wpOp_putIf hoj (hfree j oj hoj hji hjun hnot) (fun cs b => hsel i oi cs b hi) (fun cs b => hsel j oj cs b hoj) hQ hy h1
    refine wpOp_mono (fun a' w' h3 => ?_) h2
    have hS' : S w' := h3.2.1.resolve_left hnoE
    refine ⟨.inr hS', ih (listed.setIfInBounds j true) a' w' (closed_set hc hj) ?_ (ready_mono hr (Ne.symm hji)) h3.1 hS' ?_⟩
    · intro k ok hk hki hun hno
      refine hfree k ok hk hki ?_ hno
      by_cases hjk : j = k
      · subst hjk; exact hjun
      · rwa [getD_set_ne true hjk] at hun
    · rw [Array.setIfInBounds_comm _ _ hji]
      exact h3.2.2
theorem hit_mono {E : List Nat} {l : Array Bool} {i : Nat} (h : hit E l) : hit E (l.setIfInBounds i true) := by
  obtain ⟨e, he, hl⟩ := h
  exact ⟨e, he, getD_set_true hl⟩
theorem hit_drop {E : List Nat} {l : Array Bool} {i j : Nat} (hij : j ≠ i) (hi : i ∉ E) (h : hit E ((l.setIfInBounds i true).setIfInBounds j true)) : hit E (l.setIfInBounds j true) := by
  obtain ⟨e, he, hl⟩ := h
  refine ⟨e, he, ?_⟩
  rw [Array.setIfInBounds_comm _ _ (Ne.symm hij)] at hl
  rwa [getD_set_ne false (fun (e2 : i = e) => hi (e2 ▸ he))] at hl
/-- What yields whatever the heap may be taken first at any time. -/
theorem wpAnyE_firstT {E : List Nat} {i : Nat} {oi : Oper} {v : Value} (hi : ops[i]? = some oi) (hsel : ∀ (j : Nat) (o : Oper) cs b, ops[j]? = some o → o.op ≠ .select cs b)
    (hQ : ∀ c a w, Q (.panic c) (a.put oi.dst v) w → Q (.panic c) a w) (hiE : i ∉ E) :
    ∀ (fuel : Nat) (listed : Array Bool) (a : Act) (w : World),
      (∀ j oj, ops[j]? = some oj → j ≠ i → listed.getD j true = false → (∀ e ∈ oj.after, Region.binds .any e = true → e.on ≠ i) → oi.apart ops oj = true) →
      i ∈ Region.ready .any ops listed → YieldsIf P ops (fun _ => True) oi v a → (hit E listed ∨ S w) →
      wpAnyE P ops Q S E fuel (listed.setIfInBounds i true) (a.put oi.dst v) w → wpAnyE P ops Q S E (fuel + 1) listed a w := by
  intro fuel
  induction fuel with
  | zero =>
    intro listed a w _ hr hy hS H
    refine ⟨fun h => (by rw [h] at hr; cases hr), fun j hj => ?_⟩
    by_cases hji : j = i
    · subst hji; exact hy.wpOp hi trivial ⟨hS.imp hit_mono id, H⟩
    · have := ready_mono hj hji
      rw [H.1] at this
      cases this
  | succ fuel ih =>
    intro listed a w hfree hr hy hS H
    refine ⟨fun h => (by rw [h] at hr; cases hr), fun j hj => ?_⟩
    by_cases hji : j = i
    · subst hji; exact hy.wpOp hi trivial ⟨hS.imp hit_mono id, H⟩
    obtain ⟨hjun, oj, hoj, hall⟩ := mem_ready.1 hj
    have hi0 : listed.getD i true = false := (mem_ready.1 hr).1
    have hi1 : listed.getD i false = false := by
      rw [Array.getD_eq_getD_getElem?] at hi0 ⊢
      cases hx : listed[i]? with
      | none => rfl
      | some b => simp [hx] at hi0 ⊢; exact hi0
    have hnot : ∀ e ∈ oj.after, Region.binds .any e = true → e.on ≠ i := fun e he hb heq => by
      have h1 := hall e he hb
      rw [heq, hi1] at h1; cases h1
    have h1 := H.2 j (ready_mono hj hji)
    have h2 := wpOp_putIf hoj (hfree j oj hoj hji hjun hnot) (fun cs b => hsel i oi cs b hi) (fun cs b => hsel j oj cs b hoj) hQ hy h1
    refine wpOp_mono (fun a' w' h3 => ?_) h2
    have hS' : hit E (listed.setIfInBounds j true) ∨ S w' := h3.2.1.imp (hit_drop hji hiE) id
    refine ⟨hS', ih (listed.setIfInBounds j true) a' w' ?_ (ready_mono hr (Ne.symm hji)) h3.1 hS' ?_⟩
    · intro k ok hk hki hun hno
      refine hfree k ok hk hki ?_ hno
      by_cases hjk : j = k
      · subst hjk; exact hjun
      · rwa [getD_set_ne true hjk] at hun
    · rw [Array.setIfInBounds_comm _ _ hji]
      exact h3.2.2
end

end Go.KK

/- The text K14. -/
set_option linter.unusedVariables false
set_option linter.unusedSimpArgs false
namespace Go.KK

theorem sl_nil_new {α : Type} {E : Enc α} {L : List Asn} {h : Hp} (hs : Sat h L) : Sat h (sl E none 0 [] :: L) :=
  ⟨fun _ => none, h, fun _ => .inl rfl, (fun _ _ hx => (by cases hx)), Hp.le_refl _, sl_iff.2 (.inl ⟨rfl, rfl, rfl⟩), hs⟩

theorem CallS.ent {P : Program} {f : FuncId} {args : Array Value} {L : List Asn} {Q : Value → List Asn → Prop}
    (h : CallS P f args L (fun v M => ∃ v' M', Q v' M' ∧ v = v' ∧ ∀ h, Sat h M → Sat h M')) : CallS P f args L Q :=
  h.mono fun v M ⟨v', M', q, e, hm⟩ => ⟨M', by rw [e]; exact q, hm⟩

theorem SlH.le {α : Type} {E : Enc α} {L : List Asn} {a : Option Addr} {cap : Nat} {xs : List α} {f : Asn → List Asn} [hh : SlH E L a cap xs f] {h : Hp} (hs : Sat h L) : xs.length ≤ cap := by
  rcases hh.own hs with ⟨_, _, h0⟩ | ⟨_, _, _, h1, _⟩
  · subst h0; simp
  · exact h1
theorem SlH.nil {α : Type} {E : Enc α} {L : List Asn} {a : Option Addr} {cap : Nat} {xs : List α} {f : Asn → List Asn} [hh : SlH E L a cap xs f] {h : Hp} (hs : Sat h L) : a = none → xs = [] ∧ cap = 0 := by
  intro ha
  rcases hh.own hs with ⟨_, h1, h0⟩ | ⟨b, _, h1, _⟩
  · exact ⟨h0, h1⟩
  · rw [ha] at h1; cases h1

section
variable {P : Program} {F : Fr} {L : List Asn} {dst : Option Tmp} {ty : TypeId} {pos : String} {aft : Array Edge} {gd : Option (Nat × Bool)}

/-- How two elements of a type are held against each other. -/
class EqE {α : Type} [DecidableEq α] (P : Program) (t : TypeId) (E : outParam (Enc α)) : Prop where
  guard : P.eqGuardType P.depth t = false
  run : ∀ (x y : α) (w : World), (Op.equal t (.agg (E.enc x).toArray) (.agg (E.enc y).toArray)).run P w = .ok (decide (x = y)) w

theorem run_eqGuard_agg {t : TypeId} {op : BinOp} {x y : Operand} {cs ds : Array Value} (h : P.eqGuardType P.depth t = false) (w : World) : (eqGuard op t x y (.agg cs) (.agg ds)).run P w = .ok () w := by
  unfold eqGuard
  cases op <;> simp [h]

theorem Pur.eqlE {α : Type} [DecidableEq α] {E : Enc α} {t t' : Nat} [he : EqE P t E] {x y : Operand} {a b : α} (hx : ev F x = some (.agg (E.enc a).toArray)) (hy : ev F y = some (.agg (E.enc b).toArray)) :
    Pur P F L ⟨dst, .binOp .eql t x y t', ty, pos, aft, gd⟩ (.bool (decide (a = b))) := fun ρ w hρ _ => by
  have h1 := run_eqGuard_agg (P := P) (op := .eql) (x := x) (y := y) (cs := (E.enc a).toArray) (ds := (E.enc b).toArray) he.guard w
  have h2 := he.run a b w
  unfold execOp
  simp only [Sem.run_bind, hρ _ _ hx, hρ _ _ hy, h1, Result.andThen_ok]
  simp [binOp, h2]
theorem Pur.neqE {α : Type} [DecidableEq α] {E : Enc α} {t t' : Nat} [he : EqE P t E] {x y : Operand} {a b : α} (hx : ev F x = some (.agg (E.enc a).toArray)) (hy : ev F y = some (.agg (E.enc b).toArray)) :
    Pur P F L ⟨dst, .binOp .neq t x y t', ty, pos, aft, gd⟩ (.bool (decide (a ≠ b))) := fun ρ w hρ _ => by
  have h1 := run_eqGuard_agg (P := P) (op := .neq) (x := x) (y := y) (cs := (E.enc a).toArray) (ds := (E.enc b).toArray) he.guard w
  have h2 := he.run a b w
  unfold execOp
  simp only [Sem.run_bind, hρ _ _ hx, hρ _ _ hy, h1, Result.andThen_ok]
  simp [binOp, h2]
end

theorem JQ.callE {c : Cx} {F : Fr} {L : List Asn} {k : List Item} {ops rest : List Oper} {f d : Nat} [hb : Body c.P f] {ty : TypeId} {pos : String} {aft : Array Edge} {gd : Option (Nat × Bool)} {xs : List Operand} {vs : List Value} {tys : Array TypeId} {v0 : Value}
    (hw : wantF ops F ⟨some d, .call ⟨.value (.func f), xs.toArray, tys⟩, ty, pos, aft, gd⟩ = some true) (hn : Nat.blt d c.n = true) (hv : evL F xs = some vs) (hc : CallS c.P f vs.toArray L (fun v M => v = v0 ∧ M = L))
    (h : JQ c ops ((d, v0) :: F) L rest k) : JQ c ops F L (⟨some d, .call ⟨.value (.func f), xs.toArray, tys⟩, ty, pos, aft, gd⟩ :: rest) k :=
  JQ.call hw hn hv (hc.mono fun v M ⟨e1, e2⟩ => ⟨M, ⟨e1, fun h hs => e2 ▸ hs⟩, fun _ h => h⟩) h
theorem take_succ_eq {α : Type} {xs ys : List α} {i : Nat} (h : xs.take i = ys.take i) (h1 : i < xs.length) (h2 : i < ys.length) (e : xs[i] = ys[i]) : xs.take (i + 1) = ys.take (i + 1) := by
  rw [List.take_succ_eq_append_getElem h1, List.take_succ_eq_append_getElem h2, h, e]
theorem take_all_eq {α : Type} {xs ys : List α} {i : Nat} (h : xs.take i = ys.take i) (h1 : xs.length ≤ i) (h2 : ys.length ≤ i) : xs = ys := by
  rwa [List.take_of_length_le h1, List.take_of_length_le h2] at h

/-- A law on one assertion ahead, used wherever it stands. -/
theorem CallS.atM {P : Program} {fn : FuncId} {args : Array Value} {L : List Asn} {A B : Asn} {X : Value} {f : Asn → List Asn} (h : ∀ R, CallS P fn args (A :: R) (fun v M => v = X ∧ M = B :: R)) (hr : ∀ B, Rep A B L (f B)) :
    CallS P fn args L (fun v M => v = X ∧ M = f B) :=
  (CallS.at (Q := fun v B' => v = X ∧ B' = B) (fun R => (h R).mono fun v M ⟨e1, e2⟩ => ⟨M, ⟨B, ⟨e1, rfl⟩, e2⟩, fun _ h => h⟩) hr).mono fun v M ⟨B', ⟨e1, e2⟩, e3⟩ => ⟨M, ⟨e1, by rw [e3, e2]⟩, fun _ h => h⟩
theorem CallS.atR {P : Program} {fn : FuncId} {args : Array Value} {L : List Asn} {A : Asn} {X : Value} {f : Asn → List Asn} (h : ∀ R, CallS P fn args (A :: R) (fun v M => v = X ∧ M = A :: R)) (hr : ∀ B, Rep A B L (f B)) :
    CallS P fn args L (fun v M => v = X ∧ M = L) :=
  (CallS.atM h hr).mono fun v M ⟨e1, e2⟩ => ⟨M, ⟨e1, by rw [e2, ← Rep.same (hr A)]⟩, fun _ h => h⟩
theorem CallS.atN {P : Program} {fn : FuncId} {args : Array Value} {L : List Asn} {A : Asn} {Q : Value → Asn → Prop} {f : Asn → List Asn} (h : ∀ R, CallS P fn args (A :: R) (fun v M => ∃ N, Q v N ∧ M = N :: A :: R)) (hr : ∀ B, Rep A B L (f B)) :
    CallS P fn args L (fun v M => ∃ N, Q v N ∧ M = N :: L) := fun w hs => by
  obtain ⟨R, p1, p2⟩ := (hr A).perm
  refine (h R w (hs.perm p1)).mono fun e w' ⟨v, M, ⟨N, q, hm⟩, he, hs', hv⟩ => ⟨v, N :: L, ⟨N, q, rfl⟩, he, ?_, hv⟩
  subst hm
  exact hs'.perm (p1.symm.cons N)
end Go.KK

/- The text K15. -/
set_option linter.unusedVariables false
set_option linter.unusedSimpArgs false
namespace Go.KK
theorem SlIn.takeN {α : Type} {E : Enc α} {L : List Asn} {a : Option Addr} {xs : List α} (h : SlIn E L a xs) (k : Nat) : SlIn E L a (xs.take k) := ⟨fun hh hs => by
  rcases h.out hh hs with h0 | ⟨b, off, C, T, fz, ha, hb, hc⟩
  · subst h0; exact .inl (by simp)
  · refine .inr ⟨b, off, C, T, fz, ha, hb, fun j v hj => hc j v ?_⟩
    have e : E.all xs = E.all (xs.take k) ++ E.all (xs.drop k) := by rw [← E.all_append, List.take_append_drop]
    rw [e, List.getElem?_append_left (List.getElem?_eq_some_iff.1 hj).1]; exact hj⟩
theorem SlIn.dropN {α : Type} {E : Enc α} {L : List Asn} {a : Option Addr} {xs : List α} {cap m : Nat} (h : SlIn E L a xs) (hm : E.m = m) (k : Nat) (hc : cap = k → xs.length ≤ k) : SlIn E L (tailA a cap k m) (xs.drop k) := ⟨fun hh hs => by
  subst hm
  unfold tailA
  by_cases hk : cap = k
  · rw [if_pos hk, List.drop_of_length_le (hc hk)]; exact .inl rfl
  · rw [if_neg hk]
    rcases h.out hh hs with h0 | ⟨b, off, C, T, fz, ha, hb, hcc⟩
    · subst h0; exact .inl (by simp)
    · by_cases hkx : xs.length ≤ k
      · exact .inl (List.drop_of_length_le hkx)
      refine .inr ⟨b, off + k * E.m, C, T, fz, ?_, hb, fun j v hj => ?_⟩
      · subst ha; simp only [Option.map_some, Option.some.injEq]; unfold Addr.add; split <;> simp_all
      · have e : E.all xs = E.all (xs.take k) ++ E.all (xs.drop k) := by rw [← E.all_append, List.take_append_drop]
        have hl : (E.all (xs.take k)).length = k * E.m := by rw [E.all_len, List.length_take, Nat.min_eq_left (by omega)]
        have := hcc (k * E.m + j) v (by rw [e, List.getElem?_append_right (by omega), hl]; simpa using hj)
        rw [← this]; congr 1; omega⟩
theorem SlH.toIn {α : Type} {E : Enc α} {L : List Asn} {a : Option Addr} {cap : Nat} {xs : List α} {f : Asn → List Asn} [h : SlH E L a cap xs f] : SlIn E L a xs := h.slIn

theorem SlH.someA {α : Type} {E : Enc α} {L : List Asn} {a : Option Addr} {cap : Nat} {xs : List α} {f : Asn → List Asn} [hh : SlH E L a cap xs f] {h : Hp} (hs : Sat h L) (hx : 0 < xs.length) : ∃ b o, a = some ⟨b, o, none⟩ :=
  SlIn.some hh.slIn hx h hs
theorem Pur.idxP {P : Program} {F : Fr} {L : List Asn} {dst : Option Tmp} {ty : TypeId} {pos : String} {aft : Array Edge} {gd : Option (Nat × Bool)} {t e m by_ : Nat} {z : Value} [ha : SlT P t e m by_ z] {x ix : Operand} {a : Option Addr} {n cap : Nat} {kd : IntKind} {i : Int} {k : Nat} (hx : ev F x = some (.slice a n cap)) (hi : ev F ix = some (.int kd i))
    (hs : ∃ b o, a = some ⟨b, o, none⟩) (hik : i = (k : Int)) (hk : k < n) :
    Pur P F L ⟨dst, .indexAddr t x ix, ty, pos, aft, gd⟩ (.pointer (some (el a m k))) := by
  subst hik
  have := Pur.indexAddr (P := P) (F := F) (L := L) (dst := dst) (ty := ty) (pos := pos) (aft := aft) (gd := gd) (t := t) (x := x) (ix := ix) hx hi (by omega) (by omega) (fun _ _ => hs)
  simpa using this

theorem Sat.pull {A : Asn} {L R : List Asn} {h : Hp} (hp : Pull A L R) (hs : Sat h L) : Sat h (A :: R) := hs.perm hp.perm

theorem JO.effR {c : Cx} {F : Fr} {L : List Asn} {k : List Item} {ops rest : List Oper} {o : Oper} {d : Nat} {v0 : Value} (hw : wantF ops F o = some true) (hd : o.dst = some d) (hn : Nat.blt d c.n = true) (he : Eff c.P F L o (fun v M => v = v0 ∧ M = L))
    (h : JO c ops ((d, v0) :: F) L rest k) : JO c ops F L (o :: rest) k :=
  JO.eff hw hd hn he (fun v M ⟨e1, e2⟩ => by rw [e1, e2]; exact h)
end Go.KK

/- The text K16. -/
set_option linter.unusedVariables false
set_option linter.unusedSimpArgs false
namespace Go.KK

/-! The same with what has come up as the bits of a number: the side conditions are reckoned faster. -/
def lm (n m : Nat) : Array Bool := ((List.range n).map (fun k => m.testBit k)).toArray
theorem lm_get (n m k : Nat) (d : Bool) : (lm n m).getD k d = if k < n then m.testBit k else d := by
  unfold lm
  rw [Array.getD_eq_getD_getElem?]
  by_cases h : k < n
  · simp [h]
  · simp [h]
theorem lm_set {n m i : Nat} : (lm n m).setIfInBounds i true = lm n (m ||| 2 ^ i) := by
  apply Array.ext_getElem?
  intro k
  rw [Array.getElem?_setIfInBounds]
  unfold lm
  simp only [List.getElem?_toArray, List.getElem?_map, Nat.testBit_or, Nat.testBit_two_pow, List.size_toArray, List.length_map, List.length_range]
  by_cases hk : i = k
  · subst hk
    by_cases h : i < n <;> simp [h]
  · by_cases h : k < n <;> simp [h, hk]

def readyB (ops : List Oper) (m i : Nat) : Bool :=
  match ops[i]? with
  | some o => !m.testBit i && o.after.toList.all fun e => !Region.binds .any e || m.testBit e.on
  | none => false
def freeGo (all : Array Oper) (oi : Oper) (m i : Nat) : Nat → List Oper → Bool
  | _, [] => true
  | j, o :: r => (Nat.beq j i || m.testBit j || oi.apart all o || o.after.toList.any (fun e => Region.binds .any e && Nat.beq e.on i)) && freeGo all oi m i (j + 1) r
def freeB (ops : List Oper) (m i : Nat) : Bool :=
  match ops[i]? with
  | some oi => freeGo ops.toArray oi m i 0 ops
  | none => false
def ancF (ops : List Oper) (i : Nat) : Nat → Nat → Bool
  | 0, _ => false
  | n + 1, k => match ops[k]? with
    | some o => o.after.toList.any (fun e => Region.binds .any e && Nat.beq e.on i) || o.after.toList.any (fun e => Region.binds .any e && ancF ops i n e.on)
    | none => false
def selB (ops : List Oper) : Bool := ops.all fun o => match o.op with | .select .. => false | _ => true
def okT (ops : List Oper) (E : List Nat) (m i : Nat) : Bool := readyB ops m i && freeB ops m i && E.all (fun e => ancF ops i 4 e)

theorem ready_iff {ops : List Oper} {m j : Nat} (hedge : ∀ o ∈ ops, ∀ e ∈ o.after, Region.binds .any e = true → e.on < ops.length) :
    j ∈ Region.ready .any ops.toArray (lm ops.length m) ↔ readyB ops m j = true := by
  rw [mem_ready]
  unfold readyB
  constructor
  · rintro ⟨h0, o, ho, hall⟩
    have ho' : ops[j]? = some o := by simpa using ho
    have hlt : j < ops.length := (List.getElem?_eq_some_iff.1 ho').1
    rw [ho']
    rw [lm_get, if_pos hlt] at h0
    simp only [h0, Bool.not_false, Bool.true_and, List.all_eq_true]
    intro e he
    cases hb : Region.binds .any e with
    | false => rfl
    | true =>
      have := hall e (by simpa using he) hb
      rw [lm_get, if_pos (hedge o (List.mem_of_getElem? ho') e (by simpa using he) hb)] at this
      simp [this]
  · intro h
    cases ho : ops[j]? with
    | none => simp [ho] at h
    | some o =>
      simp only [ho, Bool.and_eq_true, Bool.not_eq_true', List.all_eq_true] at h
      have hlt : j < ops.length := (List.getElem?_eq_some_iff.1 ho).1
      refine ⟨by rw [lm_get, if_pos hlt]; exact h.1, o, by simpa using ho, fun e he hb => ?_⟩
      have := h.2 e (by simpa using he)
      rw [lm_get, if_pos (hedge o (List.mem_of_getElem? ho) e he hb)]
      simpa [hb] using this

def edgeB (ops : List Oper) : Bool := ops.all fun o => o.after.toList.all fun e => !Region.binds .any e || Nat.blt e.on ops.length
theorem edge_of {ops : List Oper} (h : edgeB ops = true) : ∀ o ∈ ops, ∀ e ∈ o.after, Region.binds .any e = true → e.on < ops.length := by
  intro o ho e he hb
  have h1 := List.all_eq_true.1 h o ho
  have h2 := List.all_eq_true.1 h1 e (by simpa using he)
  simp only [hb, Bool.not_true, Bool.false_or, Nat.blt_eq] at h2
  exact h2

theorem freeGo_spec {all : Array Oper} {oi : Oper} {m i : Nat} : ∀ (l : List Oper) (k : Nat), freeGo all oi m i k l = true → ∀ j o, l[j]? = some o → k + j ≠ i → m.testBit (k + j) = false → (∀ e ∈ o.after, Region.binds .any e = true → e.on ≠ i) → oi.apart all o = true
  | [], k, _, j, o, h, _, _, _ => by simp at h
  | x :: l, k, hf, j, o, h, hne, hun, hno => by
    simp only [freeGo, Bool.and_eq_true] at hf
    cases j with
    | zero =>
      simp at h; subst h
      have h1 := hf.1
      simp only [Nat.add_zero] at hne hun
      have hb : Nat.beq k i = false := by cases hb : Nat.beq k i with | true => exact absurd (Nat.eq_of_beq_eq_true hb) hne | false => rfl
      simp only [hb, hun, Bool.false_or, Bool.or_eq_true] at h1
      rcases h1 with h1 | h1
      · exact h1
      · simp only [List.any_eq_true, Bool.and_eq_true] at h1
        obtain ⟨e, he, hbd, heq⟩ := h1
        exact absurd (Nat.eq_of_beq_eq_true heq) (hno e (by simpa using he) hbd)
    | succ j =>
      simp at h
      exact freeGo_spec l (k + 1) hf.2 j o h (by omega) (by rw [show k + 1 + j = k + (j + 1) from by omega]; exact hun) hno

theorem ancF_anc {ops : List Oper} {i : Nat} : ∀ n k, ancF ops i n k = true → ancB ops.toArray i n k = true
  | 0, k, h => by simp [ancF] at h
  | n + 1, k, h => by
    simp only [ancF] at h
    cases hk : ops[k]? with
    | none => simp [hk] at h
    | some o =>
      simp only [hk, Bool.or_eq_true, List.any_eq_true, Bool.and_eq_true] at h
      simp only [ancB, List.getElem?_toArray, hk]
      rw [Array.any_eq_true]
      rcases h with ⟨e, he, hb, hq⟩ | ⟨e, he, hb, hq⟩
      · obtain ⟨j, hj, rfl⟩ := List.mem_iff_getElem.1 he
        refine ⟨j, by simpa using hj, ?_⟩
        have := Nat.eq_of_beq_eq_true hq
        simp only [Array.getElem_toList] at hb this
        simp [hb, this]
      · obtain ⟨j, hj, rfl⟩ := List.mem_iff_getElem.1 he
        refine ⟨j, by simpa using hj, ?_⟩
        simp only [Array.getElem_toList] at hb hq
        have := ancF_anc n _ hq
        simp [hb, this]

def JM (c : Cx) (ops : List Oper) (E : List Nat) (fuel m : Nat) (Lk : List Asn) (F : Fr) (L : List Asn) (k : List Item) : Prop :=
  ∀ a w, (selB ops && edgeB ops) = true → Closed ops.toArray (lm ops.length m) → OkF c.n F a → Sat (hp w) L → wpAnyE c.P ops.toArray (Qk c k w) (fun w => Sat (hp w) Lk) E fuel (lm ops.length m) a w
def JMi (c : Cx) (ops : List Oper) (E : List Nat) (fuel m i : Nat) (Lk : List Asn) (F : Fr) (L : List Asn) (k : List Item) : Prop :=
  ∀ a w, (selB ops && edgeB ops) = true → Closed ops.toArray (lm ops.length (m ||| 2 ^ i)) → OkF c.n F a → Sat (hp w) L → wpOp c.P ops.toArray (Qk c k w) i (fun a' w' => (hit E (lm ops.length (m ||| 2 ^ i)) ∨ Sat (hp w') Lk) ∧ wpAnyE c.P ops.toArray (Qk c k w) (fun w => Sat (hp w) Lk) E fuel (lm ops.length (m ||| 2 ^ i)) a' w') a w

theorem sel_of {ops : List Oper} (h : selB ops = true) : Region.noSelect ops.toArray = true := by
  unfold Region.noSelect
  rw [List.all_toArray]
  exact h

theorem closed0 (ops : List Oper) : Closed ops.toArray (lm ops.length 0) := by
  intro k o hk hl
  have hlt : k < ops.length := by
    have : ops[k]? = some o := by simpa using hk
    exact (List.getElem?_eq_some_iff.1 this).1
  rw [lm_get, if_pos hlt] at hl
  simp at hl

/-- One of E has come up. -/
def lateB (E : List Nat) (n m : Nat) : Bool := E.any fun e => Nat.blt e n && m.testBit e
theorem lateB_hit {E : List Nat} {n m : Nat} (h : lateB E n m = true) : hit E (lm n m) := by
  unfold lateB at h
  rw [List.any_eq_true] at h
  obtain ⟨e, he, h2⟩ := h
  simp only [Bool.and_eq_true, Nat.blt_eq] at h2
  exact ⟨e, he, by rw [lm_get, if_pos h2.1]; exact h2.2⟩
theorem mem_hit {E : List Nat} {n m i m' : Nat} (hm : m ||| 2 ^ i = m') (hi : i < n) (h : i ∈ E) : hit E (lm n m') := by
  subst hm
  refine ⟨i, h, ?_⟩
  rw [lm_get, if_pos hi, Nat.testBit_or, Nat.testBit_two_pow]; simp
section rules
variable {c : Cx} {F : Fr} {L : List Asn} {k : List Item} {ops : List Oper} {o : Oper} {fuel i m m' : Nat} {E : List Nat} {Lk : List Asn}

theorem J.mask {x : Code} {n : Nat} (E : List Nat) (Lk : List Asn) (hk : kind x = 2) (hm : c.P.follows .mixedOrders = true) (hl : (cOps x).length = n) (hse : (selB (cOps x) && edgeB (cOps x)) = true)
    (h : JM c (cOps x) E n 0 Lk F L k) : J c F L (.code x :: k) := fun a w hF hs => by
  cases x <;> simp only [kind, reduceCtorEq, Nat.reduceEqDiff, Nat.succ_ne_self] at hk
  case region id ops d =>
    cases d <;> simp only [kind, reduceCtorEq, Nat.reduceEqDiff] at hk
    intro fn hf hr cs
    have h1 : (Code.region id ops true).wp c.P (Qk c k w) a w := by
      refine wp_region_any hm (wpAny_of_E (S := fun w => Sat (hp w) Lk) (E := E) _ _ _ _ ?_)
      have := h a { w with drawn := w.drawn + 1 } hse (closed0 _) hF hs
      rw [Qk.to (w := w) (w' := { w with drawn := w.drawn + 1 }) rfl] at this
      simp only [cOps, Array.length_toList] at hl this
      subst hl
      have e : lm ops.size 0 = Array.replicate ops.size false := by
        apply Array.ext_getElem?
        intro j
        unfold lm
        by_cases hj : j < ops.size <;> simp [hj]
      rw [e] at this
      simpa using this
    obtain ⟨e, a', w', hq, harr⟩ := h1 (bse c.f) k cs
    cases e <;> simp only [Qk] at hq
    obtain ⟨v, L', w'', fr, q, s, hv, st, e', l⟩ := hq.2 fn hf hr cs
    exact ⟨v, L', w'', fr, q, s, hv.trans hq.1, Steps.trans harr st, e', l⟩
theorem J.mask0 {x : Code} {n : Nat} (E : List Nat) (hk : kind x = 2) (hm : c.P.follows .mixedOrders = true) (hl : (cOps x).length = n) (hse : (selB (cOps x) && edgeB (cOps x)) = true) (h : JM c (cOps x) E n 0 L F L k) : J c F L (.code x :: k) := J.mask E L hk hm hl hse h
theorem J.mask1 {x : Code} {n : Nat} {A : Asn} (E : List Nat) (hk : kind x = 2) (hm : c.P.follows .mixedOrders = true) (hl : (cOps x).length = n) (hse : (selB (cOps x) && edgeB (cOps x)) = true) (h : JM c (cOps x) E n 0 Lk F (A :: Lk) k) : J c F (A :: Lk) (.code x :: k) := J.mask E Lk hk hm hl hse h
theorem J.mask2 {x : Code} {n : Nat} {A B : Asn} (E : List Nat) (hk : kind x = 2) (hm : c.P.follows .mixedOrders = true) (hl : (cOps x).length = n) (hse : (selB (cOps x) && edgeB (cOps x)) = true) (h : JM c (cOps x) E n 0 Lk F (A :: B :: Lk) k) : J c F (A :: B :: Lk) (.code x :: k) := J.mask E Lk hk hm hl hse h
theorem J.mask3 {x : Code} {n : Nat} {A B D : Asn} (E : List Nat) (hk : kind x = 2) (hm : c.P.follows .mixedOrders = true) (hl : (cOps x).length = n) (hse : (selB (cOps x) && edgeB (cOps x)) = true) (h : JM c (cOps x) E n 0 Lk F (A :: B :: D :: Lk) k) : J c F (A :: B :: D :: Lk) (.code x :: k) := J.mask E Lk hk hm hl hse h
theorem J.mask4 {x : Code} {n : Nat} {A B D D' : Asn} (E : List Nat) (hk : kind x = 2) (hm : c.P.follows .mixedOrders = true) (hl : (cOps x).length = n) (hse : (selB (cOps x) && edgeB (cOps x)) = true) (h : JM c (cOps x) E n 0 Lk F (A :: B :: D :: D' :: Lk) k) : J c F (A :: B :: D :: D' :: Lk) (.code x :: k) := J.mask E Lk hk hm hl hse h

theorem JM.take0 {d : Nat} {v : Value} (i : Nat) (hk : ∀ h, Sat h L → Sat h Lk) (hi : ops[i]? = some o) (hc : okT ops E m i = true)
    (hy : ∀ a, OkF c.n F a → YieldsIf c.P ops.toArray (fun w => Sat (hp w) Lk) o v a) (hd : o.dst = some d) (hn : Nat.blt d c.n = true) (hm : Nat.lor m (2 ^ i) = m')
    (h : JM c ops E fuel m' Lk ((d, v) :: F) L k) : JM c ops E (fuel + 1) m Lk F L k := fun a w hse hcl hF hs => by
  unfold okT at hc
  simp only [Bool.and_eq_true] at hc hse
  obtain ⟨⟨h1, h2⟩, h5⟩ := hc
  have hedge := edge_of hse.2
  have hi' : ops.toArray[i]? = some o := by simpa using hi
  have hri := (ready_iff hedge).2 h1
  have hm2 : m' = m ||| 2 ^ i := hm.symm
  have hcl' : Closed ops.toArray (lm ops.length m') := by rw [hm2, ← lm_set]; exact closed_set hcl hri
  refine wpAnyE_first (n := 4) hi' (Region.noSelect_spec (sel_of hse.1)) (fun _ _ _ h => h) (fun e he => ancF_anc _ _ (List.all_eq_true.1 h5 e he)) fuel _ a w hcl ?_ hri (hy a hF) (hk _ hs) ?_
  · intro j oj hj hji hun hno
    have hj' : ops[j]? = some oj := by simpa using hj
    have hlt : j < ops.length := (List.getElem?_eq_some_iff.1 hj').1
    rw [lm_get, if_pos hlt] at hun
    unfold freeB at h2
    rw [hi] at h2
    exact freeGo_spec ops 0 h2 j oj hj' (by omega) (by simpa using hun) hno
  · rw [lm_set, ← hm2, hd]
    exact h _ w (by simp [hse]) hcl' (hF.put hn) hs
theorem JM.take {d : Nat} {v : Value} (i : Nat) (hk : ∀ h, Sat h L → Sat h Lk) (hi : ops[i]? = some o) (hc : okT ops E m i = true)
    (hw : wantF ops F o = some true) (hd : o.dst = some d) (hn : Nat.blt d c.n = true) (hm : Nat.lor m (2 ^ i) = m') (hp : Pur c.P F Lk o v)
    (h : JM c ops E fuel m' Lk ((d, v) :: F) L k) : JM c ops E (fuel + 1) m Lk F L k :=
  JM.take0 i hk hi hc (fun a hF => .inl ⟨wantF_ok hF hw, fun w' hs' => hp a.eval w' hF.ev hs'⟩) hd hn hm h
theorem JM.takeNo {d : Nat} (i : Nat) (hk : ∀ h, Sat h L → Sat h Lk) (hi : ops[i]? = some o) (hc : okT ops E m i = true)
    (hw : wantF ops F o = some false) (hd : o.dst = some d) (hn : Nat.blt d c.n = true) (hm : Nat.lor m (2 ^ i) = m')
    (h : JM c ops E fuel m' Lk ((d, undef) :: F) L k) : JM c ops E (fuel + 1) m Lk F L k :=
  JM.take0 i hk hi hc (fun a hF => .inr ⟨wantF_ok hF hw, rfl⟩) hd hn hm h

theorem JM.takeF {d : Nat} {v : Value} (i : Nat) (hk : lateB E ops.length m = true ∨ ∀ h, Sat h L → Sat h Lk) (hi : ops[i]? = some o) (hc : (readyB ops m i && freeB ops m i && !E.contains i) = true)
    (hw : wantF ops F o = some true) (hd : o.dst = some d) (hn : Nat.blt d c.n = true) (hm : Nat.lor m (2 ^ i) = m') (hp : Pur c.P F [] o v)
    (h : JM c ops E fuel m' Lk ((d, v) :: F) L k) : JM c ops E (fuel + 1) m Lk F L k := fun a w hse hcl hF hs => by
  simp only [Bool.and_eq_true, Bool.not_eq_true'] at hc hse
  obtain ⟨⟨h1, h2⟩, h5⟩ := hc
  have hedge := edge_of hse.2
  have hi' : ops.toArray[i]? = some o := by simpa using hi
  have hri := (ready_iff hedge).2 h1
  have hm2 : m' = m ||| 2 ^ i := hm.symm
  have hcl' : Closed ops.toArray (lm ops.length m') := by rw [hm2, ← lm_set]; exact closed_set hcl hri
  refine wpAnyE_firstT hi' (Region.noSelect_spec (sel_of hse.1)) (fun _ _ _ h => h) (fun he => by simp [he] at h5) fuel _ a w ?_ hri (.inl ⟨wantF_ok hF hw, fun w' _ => hp a.eval w' hF.ev trivial⟩) (hk.imp lateB_hit (fun g => g _ hs)) ?_
  · intro j oj hj hji hun hno
    have hj' : ops[j]? = some oj := by simpa using hj
    have hlt : j < ops.length := (List.getElem?_eq_some_iff.1 hj').1
    rw [lm_get, if_pos hlt] at hun
    unfold freeB at h2
    rw [hi] at h2
    exact freeGo_spec ops 0 h2 j oj hj' (by omega) (by simpa using hun) hno
  · rw [lm_set, ← hm2, hd]
    exact h _ w (by simp [hse]) hcl' (hF.put hn) hs
theorem JM.done (hr : Nat.beq (2 ^ ops.length) (m + 1) = true) (h : J c F L k) : JM c ops E fuel m Lk F L k := fun a w hse hcl hF hs => by
  have hm : m = 2 ^ ops.length - 1 := by have := Nat.eq_of_beq_eq_true hr; omega
  have hr' : Region.ready .any ops.toArray (lm ops.length m) = [] := by
    rw [List.eq_nil_iff_forall_not_mem]
    intro j hj
    obtain ⟨h0, o, ho, _⟩ := mem_ready.1 hj
    have hlt : j < ops.length := by
      have : ops[j]? = some o := by simpa using ho
      exact (List.getElem?_eq_some_iff.1 this).1
    rw [lm_get, if_pos hlt, hm, Nat.testBit_two_pow_sub_one] at h0
    simp [hlt] at h0
  cases fuel with
  | zero => exact ⟨hr', rfl, h a w hF hs⟩
  | succ n => exact ⟨fun _ => ⟨rfl, h a w hF hs⟩, by rw [hr']; simp⟩

theorem JM.many {rs : List Nat} (hr : (List.range ops.length).filter (readyB ops m) = rs) (hne : rs.isEmpty = false) (h : ∀ i ∈ rs, JMi c ops E fuel m i Lk F L k) : JM c ops E (fuel + 1) m Lk F L k := fun a w hse hcl hF hs => by
  have hse' := hse
  simp only [Bool.and_eq_true] at hse'
  have hedge := edge_of hse'.2
  have hiff : ∀ j, j ∈ Region.ready .any ops.toArray (lm ops.length m) ↔ j ∈ rs := by
    intro j
    rw [ready_iff hedge, ← hr, List.mem_filter, List.mem_range]
    constructor
    · intro hj
      refine ⟨?_, hj⟩
      unfold readyB at hj
      cases ho : ops[j]? with
      | none => simp [ho] at hj
      | some o => exact (List.getElem?_eq_some_iff.1 ho).1
    · exact fun hj => hj.2
  refine ⟨fun h0 => ?_, fun j hj => ?_⟩
  · cases rs with
    | nil => simp at hne
    | cons x r => have := (hiff x).2 (by simp); rw [h0] at this; cases this
  · rw [lm_set]
    exact h j ((hiff j).1 hj) a w hse (by rw [← lm_set]; exact closed_set hcl hj) hF hs
theorem JM.one (hr : (List.range ops.length).filter (readyB ops m) = [i]) (h : JMi c ops E fuel m i Lk F L k) : JM c ops E (fuel + 1) m Lk F L k :=
  JM.many hr rfl (fun j hj => by simp only [List.mem_singleton] at hj; subst hj; exact h)

theorem JMi.eff {d : Nat} {Q : Value → List Asn → Prop} (hi : ops[i]? = some o) (hw : wantF ops F o = some true) (hd : o.dst = some d) (hn : Nat.blt d c.n = true) (hm : Nat.lor m (2 ^ i) = m') (he : Eff c.P F L o Q)
    (h : ∀ v M, Q v M → ((i ∈ E ∨ lateB E ops.length m' = true) ∨ ∀ h, Sat h M → Sat h Lk) ∧ JM c ops E fuel m' Lk ((d, v) :: F) M k) : JMi c ops E fuel m i Lk F L k := fun a w hse hcl hF hs => by
  unfold wpOp
  have hm2 : m ||| 2 ^ i = m' := hm
  simp only [List.getElem?_toArray, hi]
  rw [if_pos (wantF_ok hF hw)]
  rw [hm2] at hcl ⊢
  refine .inl (he a w trivial hF.ev hs _ _ fun v w' M hq hs' hv => ?_)
  rw [hd, ← Qk.to hv]
  exact ⟨(h v M hq).1.imp (fun g => g.elim (mem_hit hm2 (List.getElem?_eq_some_iff.1 hi).1) lateB_hit) (fun g => g _ hs'), (h v M hq).2 _ _ hse hcl (hF.put hn) hs'⟩
theorem JMi.effN {Q : Value → List Asn → Prop} (hi : ops[i]? = some o) (hw : wantF ops F o = some true) (hd : o.dst = none) (hm : Nat.lor m (2 ^ i) = m') (he : Eff c.P F L o Q)
    (h : ∀ v M, Q v M → ((i ∈ E ∨ lateB E ops.length m' = true) ∨ ∀ h, Sat h M → Sat h Lk) ∧ JM c ops E fuel m' Lk F M k) : JMi c ops E fuel m i Lk F L k := fun a w hse hcl hF hs => by
  unfold wpOp
  have hm2 : m ||| 2 ^ i = m' := hm
  simp only [List.getElem?_toArray, hi]
  rw [if_pos (wantF_ok hF hw)]
  rw [hm2] at hcl ⊢
  refine .inl (he a w trivial hF.ev hs _ _ fun v w' M hq hs' hv => ?_)
  rw [hd, ← Qk.to hv]
  exact ⟨(h v M hq).1.imp (fun g => g.elim (mem_hit hm2 (List.getElem?_eq_some_iff.1 hi).1) lateB_hit) (fun g => g _ hs'), (h v M hq).2 _ _ hse hcl hF.none hs'⟩
theorem JMi.effR {d : Nat} {v0 : Value} (hk : ∀ h, Sat h L → Sat h Lk) (hi : ops[i]? = some o) (hw : wantF ops F o = some true) (hd : o.dst = some d) (hn : Nat.blt d c.n = true) (hm : Nat.lor m (2 ^ i) = m') (he : Eff c.P F L o (fun v M => v = v0 ∧ M = L))
    (h : JM c ops E fuel m' Lk ((d, v0) :: F) L k) : JMi c ops E fuel m i Lk F L k :=
  JMi.eff hi hw hd hn hm he (fun v M ⟨e1, e2⟩ => by rw [e1, e2]; exact ⟨.inr hk, h⟩)
theorem JMi.noN (hi : ops[i]? = some o) (hw : wantF ops F o = some false) (hd : o.dst = none) (hm : Nat.lor m (2 ^ i) = m') (hk : ∀ h, Sat h L → Sat h Lk)
    (h : JM c ops E fuel m' Lk F L k) : JMi c ops E fuel m i Lk F L k := fun a w hse hcl hF hs => by
  unfold wpOp
  have hm2 : m ||| 2 ^ i = m' := hm
  simp only [List.getElem?_toArray, hi]
  rw [if_neg (by rw [wantF_ok hF hw]; simp), hd]
  rw [hm2] at hcl ⊢
  exact ⟨.inr (hk _ hs), h _ _ hse hcl hF.none hs⟩
theorem JMi.no {d : Nat} (hi : ops[i]? = some o) (hw : wantF ops F o = some false) (hd : o.dst = some d) (hn : Nat.blt d c.n = true) (hm : Nat.lor m (2 ^ i) = m') (hk : ∀ h, Sat h L → Sat h Lk)
    (h : JM c ops E fuel m' Lk ((d, undef) :: F) L k) : JMi c ops E fuel m i Lk F L k := fun a w hse hcl hF hs => by
  unfold wpOp
  have hm2 : m ||| 2 ^ i = m' := hm
  simp only [List.getElem?_toArray, hi]
  rw [if_neg (by rw [wantF_ok hF hw]; simp), hd]
  rw [hm2] at hcl ⊢
  exact ⟨.inr (hk _ hs), h _ _ hse hcl (hF.put hn) hs⟩
theorem JM.splitB {b : Bool} (t : Nat) (ht : get F t = some (.bool b)) (h1 : b = true → JM c ops E fuel m Lk ((t, .bool true) :: F) L k) (h2 : b = false → JM c ops E fuel m Lk ((t, .bool false) :: F) L k) : JM c ops E fuel m Lk F L k := fun a w hse hcl hF hs => by
  cases b
  · exact h2 rfl a w hse hcl (get_split ht hF) hs
  · exact h1 rfl a w hse hcl (get_split ht hF) hs
theorem JM.setv {u u' : Value} (t : Nat) (ht : get F t = some u) (e : u = u') (h : JM c ops E fuel m Lk ((t, u') :: F) L k) : JM c ops E fuel m Lk F L k := fun a w hse hcl hF hs => h a w hse hcl (get_set (e ▸ ht) hF) hs
theorem JM.pull {A : Asn} {R : List Asn} (hp : Pull A L R) (h : JM c ops E fuel m Lk F (A :: R) k) : JM c ops E fuel m Lk F L k := fun a w hse hcl hF hs => h a w hse hcl hF (hs.perm hp.perm)
theorem JM.fact {p : Prop} (hp : ∀ h, Sat h L → p) (h : p → JM c ops E fuel m Lk F L k) : JM c ops E fuel m Lk F L k := fun a w hse hcl hF hs => h (hp _ hs) a w hse hcl hF hs
theorem JM.imp {M : List Asn} (hL : ∀ h, Sat h L → Sat h M) (h : JM c ops E fuel m Lk F M k) : JM c ops E fuel m Lk F L k := fun a w hse hcl hF hs => h a w hse hcl hF (hL _ hs)
end rules
end Go.KK

/- The text K17. -/
set_option linter.unusedVariables false
set_option linter.unusedSimpArgs false
namespace Go.KK
open Go.ChangeShapes Go.WideShapes Go.ChangeAt Go.RowKit

/-- The heap that the call met is there still. -/
@[irreducible] def inp (h0 : Hp) : Asn := fun h => Hp.le h0 h
theorem inp_iff {h0 h : Hp} : inp h0 h ↔ Hp.le h0 h := by unfold inp; exact Iff.rfl
class Inp {α : outParam Type} (E : outParam (Enc α)) (h0 : Hp) (a : Option Addr) (xs : outParam (List α)) : Prop where
  out : slR E h0 a xs
instance Inp.slIn {α : Type} {E : Enc α} {h0 : Hp} {L : List Asn} {a : Option Addr} {xs : List α} [hh : Inp E h0 a xs] : SlIn E (inp h0 :: L) a xs := ⟨fun h hs => by
  obtain ⟨h1, l, s⟩ := hs.head
  exact hh.out.mono (Hp.le_trans (inp_iff.1 s) l)⟩

theorem sat_inp (w : World) : Sat (hp w) [inp (hp w)] := ⟨hp w, fun _ => none, fun _ => .inr rfl, Hp.le_refl _, (fun _ _ h => by cases h), inp_iff.2 (Hp.le_refl _), trivial⟩

/-- What the call leaves: below the heap's old size nothing has turned. -/
theorem below_of {W W' : World} (hs : Sat (hp W') [inp (hp W)]) (he : env W' = env W) : Below W.heap.size W W' := by
  obtain ⟨h1, l, s⟩ := hs.head
  have hl : Hp.le (hp W) (hp W') := Hp.le_trans (inp_iff.1 s) l
  unfold env at he
  simp only [Prod.mk.injEq] at he
  have hb : ∀ k, k < W.heap.size → W'.heap[k]? = W.heap[k]? := fun k hk => by
    have h2 : W.heap[k]? = some W.heap[k] := Array.getElem?_eq_getElem hk
    rw [h2]; exact hl _ _ h2
  refine ⟨he.1, he.2.1, he.2.2, ?_, hb⟩
  by_cases h0 : W.heap.size = 0
  · omega
  · have := hb (W.heap.size - 1) (by omega)
    rw [Array.getElem?_eq_getElem (show W.heap.size - 1 < W.heap.size by omega)] at this
    have := (Array.getElem?_eq_some_iff.1 this).1
    omega

theorem CallS.run {P : Program} {f : FuncId} {args : Array Value} {W : World} {v0 : Value} (h : CallS P f args [inp (hp W)] (fun v M => v = v0 ∧ M = [inp (hp W)])) :
    Calls P f args W fun e W' => e = .returned v0 ∧ Below W.heap.size W W' :=
  (h W (sat_inp W)).mono fun e W' ⟨v, M, ⟨e1, e2⟩, he, hs, hv⟩ => ⟨by rw [he, e1], below_of (by rw [← e2]; exact hs) hv⟩

theorem Enc.all_at {α : Type} (E : Enc α) : ∀ (xs : List α) (j : Nat) (v : Value), (E.all xs)[j]? = some v → ∃ i k x, j = i * E.m + k ∧ k < E.m ∧ xs[i]? = some x ∧ (E.enc x)[k]? = some v
  | [], j, v, h => by simp [Enc.all] at h
  | y :: ys, j, v, h => by
    have e : E.all (y :: ys) = E.enc y ++ E.all ys := by simp [Enc.all]
    rw [e] at h
    by_cases hj : j < E.m
    · rw [List.getElem?_append_left (by rw [E.len]; exact hj)] at h
      exact ⟨0, j, y, by simp, hj, rfl, h⟩
    · rw [List.getElem?_append_right (by rw [E.len]; omega), E.len] at h
      obtain ⟨i, k, x, h1, h2, h3, h4⟩ := E.all_at ys _ v h
      exact ⟨i + 1, k, x, by rw [Nat.add_mul]; omega, h2, by simpa using h3, h4⟩

theorem slR_of {α : Type} {E : Enc α} {w : World} {a : Addr} {xs : List α} (hm : 0 < E.m)
    (hc : ∀ i x, xs[i]? = some x → ∀ k v, k < E.m → (E.enc x)[k]? = some v → w.cell? (a.add (i * E.m + k)) = some v) : slR E (hp w) (some a) xs := by
  match xs, hc with
  | [], _ => exact .inl rfl
  | y :: ys, hc =>
    have hl : 0 < (E.enc y).length := by rw [E.len]; exact hm
    have h0 := hc 0 y rfl 0 _ hm (List.getElem?_eq_getElem hl)
    have hz : a.add (0 * E.m + 0) = a := by unfold Addr.add; simp
    rw [hz, cell?_eq] at h0
    obtain ⟨b, off, spot⟩ := a
    unfold cellH at h0
    simp only at h0
    split at h0
    · rename_i C T fz hb
      split at h0
      · cases h0
      · rename_i hs
        have : spot = none := by cases spot <;> simp_all
        subst this
        refine .inr ⟨b, off, C, T, fz, rfl, hb, fun j v hj => ?_⟩
        obtain ⟨i, k, x, rfl, hk, hx, hv⟩ := E.all_at _ j v hj
        have := hc i x hx k v hk hv
        rw [cell?_eq] at this
        have e : (⟨b, off, none⟩ : Addr).add (i * E.m + k) = ⟨b, off + (i * E.m + k), none⟩ := by unfold Addr.add; split <;> simp_all
        rw [e] at this
        simpa [cellH, hb] using this
    · cases h0

section
open Go.Deep
variable {H : Type} {enc : TypeId × Value → H} {P : Program} {w : World} {base : Nat} {spare : Nat → Bool} {held : Bool}
theorem open_slice_fields {t e : TypeId} {fs : Array Field} {fuel : Nat} {cs : List Value} {x : DataW H × List MemPlace} (ht : P.underlying t = some (.slice e)) (he : P.underlying e = some (.struct fs))
    (hone : oneCellFields P fs = true) (hC : P.cellsOf e = fs.size) (h : DataW.trod enc P w base spare held fuel t cs = some x) :
    (cs = [.slice none 0 0]) ∨
    ∃ (a : Addr) (len cap : Nat), cs = [.slice (some a) len cap] ∧ len ≤ cap ∧ cap ≤ maxLen ∧
      ∀ i, i < len → ∃ (n : Nat), ∀ (j : Nat) (f : Field), fs[j]? = some f → ∃ (v : Value) (y : DataW H × List MemPlace), w.cell? (a.add (i * fs.size + j)) = some v ∧ DataW.trod enc P w base spare held n f.type [v] = some y := by
  rcases open_slice ht h with h0 | ⟨a, len, cap, m, n, D, Pl, hcs, hb, hl, hm, hmm, hx, hi⟩
  · exact .inl h0.1
  · refine .inr ⟨a, len, cap, hcs, hl, hm, fun i him => ?_⟩
    have him' : i < m := by rw [hmm]; split <;> omega
    obtain ⟨cs', hc, ht'⟩ := hi i him'
    rw [hC] at hc
    obtain ⟨ys, n', hn', hy, hlen, hyl, hf⟩ := DataW.trod_struct he ht'
    obtain ⟨_, hcl, hat⟩ := World.cells?_some hc
    refine ⟨n', fun j f hj => ?_⟩
    obtain ⟨ho, hk⟩ := hone_of hone j f hj
    have hjl : j < fs.size := (Array.getElem?_eq_some_iff.1 hj).1
    have hcell := hat j hjl
    have hv : cs'[j]? = some (cs'[j]'(by omega)) := List.getElem?_eq_getElem (by omega)
    have h1 := hf j f hj
    rw [ho, hk] at h1
    have hone' : (cs'.drop j).take 1 = [cs'[j]'(by omega)] := by
      rw [List.drop_eq_getElem_cons (by omega)]
      rfl
    rw [hone'] at h1
    have hys : ys[j]? = some (ys[j]'(by omega)) := List.getElem?_eq_getElem (by omega)
    refine ⟨_, _, ?_, h1.trans hys⟩
    rw [← Go.Deep.add_add, hcell, hv]

/-- A slice argument of structs whose fields are ints, as a list. -/
theorem open_acts {α : Type} [Inhabited α] (E : Enc α) {t e : TypeId} {fs : Array Field} {v : Value} {d : DataW H} {ps : List MemPlace} (ht : P.underlying t = some (.slice e)) (he : P.underlying e = some (.struct fs))
    (hone : oneCellFields P fs = true) (hC : P.cellsOf e = fs.size) (hm : E.m = fs.size) (hpos : 0 < fs.size) {ti : Nat} (hall : (fs.toList.all fun f => Nat.beq f.type ti) = true) (hti : P.underlying ti = some (.int .i64))
    (hmk : ∀ g : Nat → Int, ∃ x : α, ∀ k u, k < fs.size → (E.enc x)[k]? = some u → u = .int .i64 (g k))
    (hv : ∃ a len cap, v = .slice a len cap) (h : DataW.Trod enc P w base spare held t v d ps) : ∃ (a : Option Addr) (xs : List α) (cap : Nat), v = .slice a xs.length cap ∧ xs.length ≤ maxLen ∧ (a = none → xs = [] ∧ cap = 0) ∧ slR E (hp w) a xs := by
  have hint : ∀ (j : Nat) (f : Field), fs[j]? = some f → P.underlying f.type = some (.int .i64) := fun j f hj => by
    have hm : f ∈ fs.toList := by
      obtain ⟨hlt, rfl⟩ := Array.getElem?_eq_some_iff.1 hj
      simp
    rw [Nat.eq_of_beq_eq_true (List.all_eq_true.1 hall f hm)]
    exact hti
  obtain ⟨fuel, hf⟩ := h
  obtain ⟨a0, len0, cap0, rfl⟩ := hv
  rcases open_slice_fields ht he hone hC hf with h0 | ⟨a, len, cap, h0, h1, h2, hi⟩
  · simp [Value.cells] at h0
    obtain ⟨rfl, rfl, rfl⟩ := h0
    exact ⟨none, [], 0, rfl, by unfold maxLen; simp, fun _ => ⟨rfl, rfl⟩, .inl rfl⟩
  · simp [Value.cells] at h0
    obtain ⟨rfl, rfl, rfl⟩ := h0
    have hex : ∀ i, i < len0 → ∃ x : α, ∀ k u, k < E.m → (E.enc x)[k]? = some u → w.cell? (a.add (i * E.m + k)) = some u := by
      intro i hil
      obtain ⟨n, hn⟩ := hi i hil
      have hg : ∀ k, k < fs.size → ∃ z : Int, w.cell? (a.add (i * fs.size + k)) = some (.int .i64 z) := by
        intro k hk
        obtain ⟨v, y, c1, c2⟩ := hn k fs[k] (Array.getElem?_eq_getElem hk)
        obtain ⟨z, e1, _, _⟩ := DataW.trod_int (hint k _ (Array.getElem?_eq_getElem hk)) c2
        simp only [List.cons.injEq, and_true] at e1
        exact ⟨z, by rw [c1, e1]⟩
      obtain ⟨g, hg⟩ := choose_lt hg
      obtain ⟨x, hx⟩ := hmk g
      refine ⟨x, fun k u hk hu => ?_⟩
      rw [hm] at hk ⊢
      rw [hx k u hk hu]
      exact hg k hk
    obtain ⟨F, hF⟩ := choose_lt hex
    refine ⟨some a, (List.range len0).map F, cap0, by simp, by simp; omega, (fun h => by cases h), slR_of (by omega) ?_⟩
    intro i x hx k u hk hu
    rw [List.getElem?_map] at hx
    by_cases hil : i < len0
    · rw [List.getElem?_range hil] at hx
      simp only [Option.map_some, Option.some.injEq] at hx
      subst hx
      exact hF i hil k u hk hu
    · rw [List.getElem?_eq_none (by simp; omega)] at hx; cases hx
end
end Go.KK

/- The text K18. -/
set_option linter.unusedVariables false
set_option linter.unusedSimpArgs false
set_option linter.unusedSectionVars false
namespace Go.KK

/-! Strings. -/
theorem str_beq (a b : ByteArray) : (a == b) = decide (a = b) := by
  obtain ⟨⟨x⟩⟩ := a
  obtain ⟨⟨y⟩⟩ := b
  show ((⟨x⟩ : Array UInt8) == ⟨y⟩) = _
  by_cases h : x = y
  · subst h; simp
  · simp [h]
theorem str_eq (a b : ByteArray) : (a.toList == b.toList) = decide (a = b) := by rw [← beq_toListBytes, str_beq]
section
variable {P : Program} {F : Fr} {L : List Asn} {dst : Option Tmp} {ty : TypeId} {pos : String} {aft : Array Edge} {gd : Option (Nat × Bool)}

class StT' (P : Program) (t : TypeId) : Prop where out : P.underlying t = some .string
theorem Pur.eqlT {t t' : Nat} [ha : StT' P t] {x y : Operand} {a b : ByteArray} (hx : ev F x = some (.string a)) (hy : ev F y = some (.string b)) :
    Pur P F L ⟨dst, .binOp .eql t x y t', ty, pos, aft, gd⟩ (.bool (decide (a = b))) := fun ρ w hρ _ => by
  simp [execOp, hρ _ _ hx, hρ _ _ hy, eqGuard, binOp, Op.stringOp, str_eq, go_sem]
theorem Pur.neqT {t t' : Nat} [ha : StT' P t] {x y : Operand} {a b : ByteArray} (hx : ev F x = some (.string a)) (hy : ev F y = some (.string b)) :
    Pur P F L ⟨dst, .binOp .neq t x y t', ty, pos, aft, gd⟩ (.bool (decide (a ≠ b))) := fun ρ w hρ _ => by
  simp [execOp, hρ _ _ hx, hρ _ _ hy, eqGuard, binOp, Op.stringOp, str_eq, go_sem]
theorem Pur.lenT {x : Operand} {t : Nat} [ha : StT' P t] {s : ByteArray} (hx : ev F x = some (.string s)) :
    Pur P F L ⟨dst, .call ⟨.builtin .len, #[x], #[t]⟩, ty, pos, aft, gd⟩ (.int .i64 (s.size : Int)) := fun ρ w hρ _ => by
  have hu := ha.out
  simp [execOp, resolve, invoke, builtin, Builtin.len_, hρ _ _ hx, hu, underlying, goInt, go_sem]

/-! Functions as values. -/
theorem Pur.makeFunc {f : Fn} {xs ys : List Operand} {us vs : List Value} (hx : evL F xs = some us) (hy : evL F ys = some vs) :
    Pur P F L ⟨dst, .makeFunc f xs.toArray ys.toArray, ty, pos, aft, gd⟩ (.func f us.toArray vs.toArray) := fun ρ w hρ _ => by
  have h1 := evL_ok hρ hx
  have h2 := evL_ok hρ hy
  simp [execOp, Instr.makeFunc, h1, h2, go_sem]
theorem Eff.callV {f : Nat} [hb : Body P f] {g : Operand} {xs : List Operand} {vs cs : List Value} {tys : Array TypeId} {Q : Value → List Asn → Prop}
    (hg : ev F g = some (.func (.func f) #[] cs.toArray)) (hv : evL F xs = some vs) (h : CallS P f (vs ++ cs).toArray L Q) :
    Eff P F L ⟨dst, .call ⟨.value g, xs.toArray, tys⟩, ty, pos, aft, gd⟩ Q := fun a w hd ha hs next Qx hn => by
  have h0 := hb.out
  unfold hasBody at h0
  split at h0
  · rename_i fn hf
    simp only [Bool.and_eq_true, Bool.not_eq_true'] at h0
    obtain ⟨h1, h2⟩ := h0
    have hbn : fn.body.isNone = false := by cases hbb : fn.body <;> simp_all
    have hargs : (xs.toArray.map a.eval) = vs.toArray := by
      have := evL_ok ha hv
      simp [this]
    have hfe : a.eval g = .func (.func f) #[] cs.toArray := ha _ _ hg
    have hr : (execOp a.eval ⟨dst, .call ⟨.value g, xs.toArray, tys⟩, ty, pos, aft, gd⟩).run P w = .ok (.enter f (vs ++ cs).toArray) w := by
      unfold execOp
      simp only [resolve, hargs, hfe, Deferred.ofValue, Sem.run_bind, Sem.run_pure, Result.andThen_ok]
      simp [invoke, callFunc, hf, hbn, go_sem]
      rw [if_neg (by simpa using h2), if_neg (by cases hbb : fn.body <;> simp_all)]
    unfold Oper.wp
    rw [hr, Oper.upon_enter]
    refine (h w hs).mono fun e w' ⟨v, M, hq, he, hs', hv⟩ => ?_
    subst he
    exact hn v w' M hq hs' hv
  · cases h0
end

/-! Maps. -/
class MapT (P : Program) (t : TypeId) (k e : outParam TypeId) : Prop where out : P.underlying t = some (.map k e)

/-- How keys of a kind look. -/
structure KeyE (κ : Type) where
  v : κ → Value
  kind : TypeDesc
  now : ∀ a b : κ, ∀ d : Decidable (a = b), Instr.sameNow kind (v a) (v b) = some (@decide (a = b) d)
  scalar : ∀ (P : Program) (w : World) (t : TypeId) (a : κ) (em : Bool), P.underlying t = some kind → (Instr.checkKey em 10000 t (v a)).run P w = .ok () w
  bits : ∀ a b : κ, a = b → Instr.sameBits 10000 (v a) (v b) = true

def strK : KeyE ByteArray := ⟨.string, .string, fun a b d => by
  show some (a == b) = _
  rw [str_beq]
  congr 1
  cases d with
  | isTrue h => simp [h]
  | isFalse h => simp [h], fun P w t a em h => by
    have hu := run_underlying (P := P) h w
    rw [show (10000 : Nat) = 9999 + 1 from rfl, Instr.checkKey.eq_def]
    simp [Sem.run_bind, hu, go_sem], fun a b h => by
    subst h
    rw [show (10000 : Nat) = 9999 + 1 from rfl, Instr.sameBits.eq_def]; simp [str_beq]⟩
def intK : KeyE Int := ⟨.int .i64, .int .i64, fun a b d => by
  show (if IntKind.i64 = IntKind.i64 then some (a == b) else none) = _
  rw [if_pos rfl]
  congr 1
  cases d with
  | isTrue h => subst h; simp
  | isFalse h => simp [h], fun P w t a em h => by
    have hu := run_underlying (P := P) h w
    rw [show (10000 : Nat) = 9999 + 1 from rfl, Instr.checkKey.eq_def]
    simp [Sem.run_bind, hu, go_sem], fun a b h => by
    subst h
    rw [show (10000 : Nat) = 9999 + 1 from rfl, Instr.sameBits.eq_def]; simp⟩

section
variable {κ : Type} [DecidableEq κ]
def alook (m : List (κ × Value)) (k : κ) : Option Value := (m.find? (fun p => decide (k = p.1))).map (·.2)
def aset (m : List (κ × Value)) (k : κ) (v : Value) : List (κ × Value) := if (alook m k).isSome then m.map (fun p => if k = p.1 then (p.1, v) else p) else m ++ [(k, v)]

def ents (K : KeyE κ) (es : Array MapEntry) (m : List (κ × Value)) : Prop := es.toList.map (fun e => (e.key, e.val)) = m.map (fun p => (K.v p.1, p.2)) ∧ (m.map (·.1)).Nodup
/-- The entries' times of birth differ, and lie in the past. -/
def bornOk (es : Array MapEntry) (clock : Nat) : Prop := (es.toList.map (·.born)).Nodup ∧ ∀ e ∈ es.toList, e.born < clock
@[irreducible] def mp (K : KeyE κ) (b : Nat) (m : List (κ × Value)) : Asn := fun h => ∃ es clock, h b = some (.map es clock) ∧ ents K es m ∧ bornOk es clock
theorem mp_iff {K : KeyE κ} {b : Nat} {m : List (κ × Value)} {h : Hp} : mp K b m h ↔ ∃ es clock, h b = some (.map es clock) ∧ ents K es m ∧ bornOk es clock := by unfold mp; exact Iff.rfl

theorem alook_aset (m : List (κ × Value)) (k k' : κ) (v : Value) : alook (aset m k v) k' = if k' = k then some v else alook m k' := by
  unfold aset
  by_cases h : (alook m k).isSome
  · rw [if_pos h]
    unfold alook at *
    induction m with
    | nil => simp at h
    | cons p m ih =>
      by_cases hp : k = p.1
      · subst hp
        by_cases hk : k' = p.1
        · subst hk; simp
        · simp only [List.map_cons, if_true, List.find?_cons, hk, decide_false, Bool.false_eq_true, if_false]
          by_cases hs : (m.find? (fun q => decide (p.1 = q.1))).isSome
          · have := ih (by simpa using hs)
            simpa [hk] using this
          · congr 1
            have hn : ∀ q ∈ m, ¬ p.1 = q.1 := by
              intro q hq e
              apply hs
              rw [List.find?_isSome]
              exact ⟨q, hq, by simp [e]⟩
            have : m.map (fun q => if p.1 = q.1 then (q.1, v) else q) = m := by
              rw [show m = m.map id by simp]
              simp only [List.map_map]
              apply List.map_congr_left
              intro q hq
              simp [hn q hq]
            rw [this]
      · have hs : (Option.map (·.2) (m.find? (fun q => decide (k = q.1)))).isSome := by simpa [hp] using h
        have := ih hs
        by_cases hk : k' = p.1
        · have : ¬ k' = k := fun e => hp (e ▸ hk)
          subst hk; simp [hp, this]
        · simpa [hp, hk] using this
  · rw [if_neg h]
    unfold alook at *
    rw [List.find?_append]
    by_cases hk : k' = k
    · subst hk
      have : m.find? (fun p => decide (k' = p.1)) = none := by
        cases hf : m.find? (fun p => decide (k' = p.1)) with
        | none => rfl
        | some q => rw [hf] at h; simp at h
      simp [this]
    · cases hf : m.find? (fun p => decide (k' = p.1)) <;> simp [hk]

theorem findNow_ents {K : KeyE κ} : ∀ {m : List (κ × Value)} {es : List MapEntry} (k : κ) (i : Nat), es.map (fun e => (e.key, e.val)) = m.map (fun p => (K.v p.1, p.2)) →
    Instr.findNow K.kind (K.v k) es i = some ((m.findIdx? (fun p => decide (k = p.1))).bind fun j => (m[j]?).map fun p => (i + j, p.2))
  | [], [], k, i, _ => by simp [Instr.findNow]
  | [], _ :: _, _, _, h => by simp at h
  | _ :: _, [], _, _, h => by simp at h
  | p :: m, e :: es, k, i, h => by
    simp only [List.map_cons, List.cons.injEq, Prod.mk.injEq] at h
    obtain ⟨⟨h1, h2⟩, h3⟩ := h
    unfold Instr.findNow
    rw [h1, K.now k p.1 inferInstance]
    by_cases hk : k = p.1
    · subst hk; simp [h2, List.findIdx?_cons]
    · simp only [hk, decide_false]
      rw [findNow_ents k (i + 1) h3]
      simp only [List.findIdx?_cons, hk, decide_false, Bool.false_eq_true, if_false, Option.some.injEq]
      cases hf : m.findIdx? (fun p => decide (k = p.1)) with
      | none => rfl
      | some j => simp; cases m[j]? <;> simp; omega
end

section
variable {κ : Type} [DecidableEq κ] {P : Program} {F : Fr} {L : List Asn} {dst : Option Tmp} {ty : TypeId} {pos : String} {aft : Array Edge} {gd : Option (Nat × Bool)}

theorem Eff.makeMap (K : KeyE κ) {t : Nat} :
    Eff P F L ⟨dst, .makeMap t none, ty, pos, aft, gd⟩ (fun u M => ∃ b, u = .map (some b) ∧ M = mp K b [] :: L) := Eff.of_run fun ρ w hρ hs => by
  refine ⟨.map (some w.heap.size), { w with heap := w.heap.push (.map #[] 0) }, _, rfl, ⟨w.heap.size, rfl, rfl⟩, rfl, ?_⟩
  rw [hp_push]
  refine (Sat.new (o := .map #[] 0) (hp_size w) hs).cons_imp (fun h hh => ?_) (fun _ h => h)
  rw [blk_iff] at hh
  exact mp_iff.2 ⟨_, _, hh, ⟨rfl, by simp⟩, by simp [bornOk]⟩

end
class MpIn {κ : outParam Type} (K : outParam (KeyE κ)) (L : List Asn) (b : Nat) (m : outParam (List (κ × Value))) (f : outParam (Asn → List Asn)) : Prop where out : ∀ B, Rep (mp K b m) B L (f B)
instance MpIn.head {κ : Type} {K : KeyE κ} {L : List Asn} {b : Nat} {m : List (κ × Value)} : MpIn K (mp K b m :: L) b m (fun B => B :: L) := ⟨fun _ => .head⟩
instance (priority := 900) MpIn.tail {κ : Type} {K : KeyE κ} {A : Asn} {L : List Asn} {b : Nat} {m : List (κ × Value)} {f : Asn → List Asn} [h : MpIn K L b m f] : MpIn K (A :: L) b m (fun B => A :: f B) := ⟨fun B => .tail (h.out B)⟩
end Go.KK
