/-
  A part of the proof of the claim that this folder bears.
-/
import Derived.Test.YtoikjjpleonllaaKA
import Derived.IntWalk
import Derived.ProofKit
import Derived.Deep.Slices
import Derived.Deep.Fields
import Derived.ChangeSame
import Derived.Laws.StructEq
import Derived.MapKept
import Derived.Scope
/- The text K10. -/
set_option linter.unusedVariables false
set_option linter.unusedSimpArgs false
namespace Go.KK

theorem get_split {F : Fr} {t : Nat} {b : Bool} (ht : get F t = some (.bool b)) {n : Nat} {a : Act} (hF : OkF n F a) : OkF n ((t, .bool b) :: F) a :=
  ⟨hF.size, hF.nodef, fun s v hv => by
    simp only [get] at hv
    cases hb : Nat.beq t s with
    | true => rw [hb] at hv; simp at hv; subst hv; have := Nat.eq_of_beq_eq_true hb; subst this; exact hF.val _ _ ht
    | false => rw [hb] at hv; exact hF.val _ _ hv⟩

theorem get_set {F : Fr} {t : Nat} {u : Value} (ht : get F t = some u) {n : Nat} {a : Act} (hF : OkF n F a) : OkF n ((t, u) :: F) a :=
  ⟨hF.size, hF.nodef, fun s v hv => by
    simp only [get] at hv
    cases hb : Nat.beq t s with
    | true => rw [hb] at hv; simp at hv; subst hv; have := Nat.eq_of_beq_eq_true hb; subst this; exact hF.val _ _ ht
    | false => rw [hb] at hv; exact hF.val _ _ hv⟩

section rules
variable {c : Cx} {F : Fr} {L Lk : List Asn} {k : List Item} {ops rest : List Oper} {fuel : Nat} {is : List Nat}

theorem J.splitB {b : Bool} (t : Nat) (ht : get F t = some (.bool b)) (h1 : b = true → J c ((t, .bool true) :: F) L k) (h2 : b = false → J c ((t, .bool false) :: F) L k) : J c F L k := fun a w hF hs => by
  cases b
  · exact h2 rfl a w (get_split ht hF) hs
  · exact h1 rfl a w (get_split ht hF) hs
theorem JO.splitB {b : Bool} (t : Nat) (ht : get F t = some (.bool b)) (h1 : b = true → JO c ops ((t, .bool true) :: F) L rest k) (h2 : b = false → JO c ops ((t, .bool false) :: F) L rest k) : JO c ops F L rest k := fun a w hF hs => by
  cases b
  · exact h2 rfl a w (get_split ht hF) hs
  · exact h1 rfl a w (get_split ht hF) hs
theorem JQ.splitB {b : Bool} (t : Nat) (ht : get F t = some (.bool b)) (h1 : b = true → JQ c ops ((t, .bool true) :: F) L rest k) (h2 : b = false → JQ c ops ((t, .bool false) :: F) L rest k) : JQ c ops F L rest k := fun a w hF => by
  cases b
  · exact h2 rfl a w (get_split ht hF)
  · exact h1 rfl a w (get_split ht hF)

/-- A slot's value, spelled otherwise. -/
theorem J.setv {u u' : Value} (t : Nat) (ht : get F t = some u) (e : u = u') (h : J c ((t, u') :: F) L k) : J c F L k := fun a w hF hs => h a w (get_set (e ▸ ht) hF) hs
theorem JO.setv {u u' : Value} (t : Nat) (ht : get F t = some u) (e : u = u') (h : JO c ops ((t, u') :: F) L rest k) : JO c ops F L rest k := fun a w hF hs => h a w (get_set (e ▸ ht) hF) hs
theorem JQ.setv {u u' : Value} (t : Nat) (ht : get F t = some u) (e : u = u') (h : JQ c ops ((t, u') :: F) L rest k) : JQ c ops F L rest k := fun a w hF => h a w (get_set (e ▸ ht) hF)

theorem Picks.append {G H : Fr} (h1 : Picks F G) (h2 : Picks F H) : Picks F (G ++ H) := by
  induction h1 with
  | nil => exact h2
  | cons a b _ ih => exact .cons a b ih

/-- A loop: 'I i' is what its round turns, 'F0' what it leaves. -/
theorem J.loopF {x : Code} {ι : Type} (good : ι → Prop) (I : ι → Fr) (F0 : Fr) (H : ι → List Asn) (μ : ι → Nat) (i0 : ι) (hk : kind x = 6)
    (hF0 : Picks F F0) (hI : Picks F (I i0)) (hL : ∀ h, Sat h L → Sat h (H i0)) (hg : good i0)
    (body : ∀ i, good i → (∀ j, good j → μ j < μ i → J c (I j ++ F0) (H j) (.inLoop (cL x) :: k)) → J c (I i ++ F0) (H i) (.code (cL x) :: .inLoop (cL x) :: k)) :
    J c F L (.code x :: k) :=
  J.loop good (fun i => I i ++ F0) H μ i0 hk (hI.append hF0) hL hg body

/-- One piece of the list ahead. -/
inductive Pull (A : Asn) : List Asn → List Asn → Prop
  | head {L : List Asn} : Pull A (A :: L) L
  | tail {B : Asn} {L R : List Asn} : Pull A L R → Pull A (B :: L) (B :: R)
theorem Pull.perm {A : Asn} {L R : List Asn} (h : Pull A L R) : L.Perm (A :: R) := by
  induction h with
  | head => exact .refl _
  | @tail B L R _ ih => exact (ih.cons B).trans (.swap _ _ _)
/-- A callee's law on one assertion ahead, anywhere. -/
theorem CallS.at {P : Program} {fn : FuncId} {args : Array Value} {A : Asn} {Q : Value → Asn → Prop} {f : Asn → List Asn} (h : ∀ R, CallS P fn args (A :: R) (fun v M => ∃ B, Q v B ∧ M = B :: R)) (hr : ∀ B, Rep A B L (f B)) :
    CallS P fn args L (fun v M => ∃ B, Q v B ∧ M = f B) := fun w hs => by
  obtain ⟨R, p1, p2⟩ := (hr A).perm
  have hrep : ∀ B, ∃ R', L.Perm (A :: R') ∧ (f B).Perm (B :: R') := fun B => (hr B).perm
  refine (h R w (hs.perm p1)).mono fun e w' ⟨v, M, ⟨B, q, hm⟩, he, hs', hv⟩ => ⟨v, f B, ⟨B, q, rfl⟩, he, ?_, hv⟩
  subst hm
  obtain ⟨R', q1, q2⟩ := hrep B
  have : (A :: R).Perm (A :: R') := p1.symm.trans q1
  have h2 : R.Perm R' := (List.perm_cons A).1 this
  exact (hs'.perm (h2.cons B)).perm q2.symm

theorem wr64 {n : Int} (h : -9223372036854775808 ≤ n ∧ n ≤ 9223372036854775807) : IntKind.wrap .i64 n = n := IntWalk.i64_in n h
end rules
end Go.KK
namespace Go.KK
section
variable {c : Cx} {F : Fr} {L Lk : List Asn} {k : List Item}
end
end Go.KK

/- The text K11. -/
set_option linter.unusedVariables false
set_option linter.unusedSimpArgs false
namespace Go.KK
section
variable {P : Program} {F : Fr} {L : List Asn} {dst : Option Tmp} {ty : TypeId} {pos : String} {aft : Array Edge} {gd : Option (Nat × Bool)}

theorem Eff.storeBA {t n : Nat} [h1 : Agg P t n] {x y : Operand} {b : Nat} {cs cs' : List Value} {T : TypeId} {f : Obj → List Asn}
    (hx : ev F x = some (.pointer (some ⟨b, 0, none⟩))) (hy : ev F y = some (.agg cs'.toArray)) [hb : BlkH L b (.cells cs.toArray T (0, 0)) f] (hl : cs.length = n) (hl' : cs'.length = n) (hv : cs'.all (·.oneCell') = true) :
    Eff P F L ⟨dst, .store t x y, ty, pos, aft, gd⟩ (fun u M => u = undef ∧ M = f (.cells cs'.toArray T (0, 0))) := Eff.of_skip fun ρ w hρ hs => by
  have hr := hb.out (.cells cs'.toArray T (0, 0))
  obtain ⟨R, p1, p2⟩ := hr.perm
  have hs1 := hs.perm p1
  have hbw : hp w b = some (.cells cs.toArray T (0, 0)) := BlkIn.head.out _ hs1
  have hst := run_storeVar_row (P := P) w b T t cs.toArray cs'.toArray hbw (by rw [h1.size]; simp [hl']) (by simp [hl, hl']) (by simpa using hv)
  refine ⟨w.setRow b cs'.toArray, f (.cells cs'.toArray T (0, 0)), ?_, ⟨rfl, rfl⟩, rfl, ?_⟩
  · have he : execOp ρ ⟨dst, .store t x y, ty, pos, aft, gd⟩ = (do Instr.storeAt t (ρ x) (ρ y); pure .skip) := rfl
    rw [he, Sem.run_bind, hρ _ _ hx, hρ _ _ hy]
    have : (Instr.storeAt t (.pointer (some ⟨b, 0, none⟩)) (.agg cs'.toArray)).run P w = .ok () (w.setRow b cs'.toArray) := by
      simp only [Instr.storeAt, Instr.sureAddr, Sem.run_bind, Sem.run_pure, Result.andThen_ok]
      exact hst
    rw [this]; rfl
  · have e : hp (w.setRow b cs'.toArray) = Hp.upd (hp w) b (.cells cs'.toArray T (0, 0)) := by
      funext z
      unfold Hp.upd
      by_cases h : z = b
      · subst h; simp only [if_true]; exact setRow_heap w z cs.toArray _ T _ hbw
      · simp only [h, if_false]; exact setRow_other w b z _ h
    rw [e]
    exact Sat.perm p2.symm hs1.upd
end
end Go.KK

/- The text K12. -/
set_option linter.unusedVariables false
set_option linter.unusedSimpArgs false
namespace Go.KK

theorem Rep.same {A : Asn} {L M : List Asn} (h : Rep A A L M) : L = M := by
  induction h with
  | head => rfl
  | tail _ ih => exact congrArg _ ih

theorem hp_setRow (w : World) (b : Nat) (old cs : Array Value) (T : TypeId) (fz : Nat × Nat) (h : hp w b = some (.cells old T fz)) : hp (w.setRow b cs) = Hp.upd (hp w) b (.cells cs T fz) := by
  funext z
  unfold Hp.upd
  by_cases e : z = b
  · subst e; simp only [if_true]; exact setRow_heap w z old cs T fz h
  · simp only [e, if_false]; exact setRow_other w b z cs e

/-- A slice's array is written beyond what the slice shows, or anew: the law of its owner. -/
theorem sl_row {α : Type} {E : Enc α} {L : List Asn} {a : Option Addr} {cap : Nat} {xs ys : List α} {f : Asn → List Asn} {w : World} {b : Nat} {sp sp' : List Value} (hh : SlH E L a cap xs f) (hs : Sat (hp w) L) (ha : a = some ⟨b, 0, none⟩)
    (hb : hp w b = some (.cells (E.all xs ++ sp).toArray E.T (0, 0))) (hx : xs ≠ [] ∨ 0 < cap) (hle : ys.length ≤ cap) (hcap : cap ≤ maxLen) (hsp : sp'.length = (cap - ys.length) * E.m) :
    Sat (hp (w.setRow b (E.all ys ++ sp').toArray)) (f (sl E a cap ys)) := by
  subst ha
  rw [hp_setRow _ _ _ _ _ _ hb]
  refine Sat.frameRep (hh.out _) hs fun h1 hA hl1 => ?_
  rcases sl_iff.1 hA with ⟨hno, hc0, hx0⟩ | ⟨b', spare', ha', r1, r2, r3, hb'⟩
  · cases hno
  simp only [Option.some.injEq, Addr.mk.injEq, true_and, and_true] at ha'
  subst ha'
  refine ⟨Hp.upd h1 b (.cells (E.all ys ++ sp').toArray E.T (0, 0)), sl_iff.2 (.inr ⟨b, sp', rfl, hle, hcap, hsp, by simp [Hp.upd]⟩), ?_, ?_, ?_⟩
  · intro x o hxo
    unfold Hp.upd at *
    by_cases e : x = b
    · simpa [e] using hxo
    · simp only [e, if_false] at *; exact hl1 _ _ hxo
  · intro x hx'
    unfold Hp.upd at hx'
    by_cases e : x = b
    · left; rw [e, hb']; simp
    · left; simpa [e] using hx'
  · intro x o hxo hno
    unfold Hp.upd
    by_cases e : x = b
    · rw [e, hb'] at hno; cases hno
    · simpa [e] using hxo

theorem SlH.own {α : Type} {E : Enc α} {L : List Asn} {a : Option Addr} {cap : Nat} {xs : List α} {f : Asn → List Asn} (hh : SlH E L a cap xs f) {h : Hp} (hs : Sat h L) :
    (a = none ∧ cap = 0 ∧ xs = []) ∨ ∃ b sp, a = some ⟨b, 0, none⟩ ∧ xs.length ≤ cap ∧ cap ≤ maxLen ∧ sp.length = (cap - xs.length) * E.m ∧ h b = some (.cells (E.all xs ++ sp).toArray E.T (0, 0)) := by
  obtain ⟨h1, l, s⟩ := Sat.memRep (hh.out (sl E a cap xs)) hs
  rcases sl_iff.1 s with h0 | ⟨b, sp, e1, e2, e3, e4, e5⟩
  · exact .inl h0
  · exact .inr ⟨b, sp, e1, e2, e3, e4, l _ _ e5⟩

section
variable {P : Program} {F : Fr} {L : List Asn} {dst : Option Tmp} {ty : TypeId} {pos : String} {aft : Array Edge} {gd : Option (Nat × Bool)}

theorem Pur.slice0 {t e m by_ : Nat} {z : Value} [ha : SlT P t e m by_ z] {x y : Operand} {kd : IntKind} {a : Option Addr} {n cap h : Nat} {i : Int}
    (hx : ev F x = some (.slice a n cap)) (hy : ev F y = some (.int kd i)) (hi : i = (h : Int)) (h2 : h ≤ cap) :
    Pur P F L ⟨dst, .slice t x none (some y) none, ty, pos, aft, gd⟩ (.slice a h cap) := by
  subst hi
  have := Pur.slice (P := P) (F := F) (L := L) (dst := dst) (ty := ty) (pos := pos) (aft := aft) (gd := gd) (t := t) (lo := none) (hi := some y) (l := 0) (h := h) hx (.inl ⟨rfl, rfl⟩) (.inr ⟨_, _, rfl, hy⟩) (Nat.zero_le _) h2
  have e : (if cap = 0 then a else a.map (·.add (0 * m))) = a := by
    split
    · rfl
    · cases a <;> simp [Addr.add]
  rw [e] at this
  simpa using this

def tailA (a : Option Addr) (cap j m : Nat) : Option Addr := if cap = j then a else a.map (·.add (j * m))

theorem Pur.slice1 {t e m by_ : Nat} {z : Value} [ha : SlT P t e m by_ z] {x y : Operand} {kd : IntKind} {a : Option Addr} {n cap l : Nat} {i : Int}
    (hx : ev F x = some (.slice a n cap)) (hy : ev F y = some (.int kd i)) (hi : i = (l : Int)) (h1 : l ≤ n) (h2 : n ≤ cap) :
    Pur P F L ⟨dst, .slice t x (some y) none none, ty, pos, aft, gd⟩ (.slice (tailA a cap l m) (n - l) (cap - l)) := by
  subst hi
  exact Pur.slice (P := P) (F := F) (L := L) (dst := dst) (ty := ty) (pos := pos) (aft := aft) (gd := gd) (t := t) (lo := some y) (hi := none) (l := l) (h := n) hx (.inr ⟨_, _, rfl, hy⟩) (.inl ⟨rfl, rfl⟩) h1 h2
theorem Pur.slice2 {t e m by_ : Nat} {z : Value} [ha : SlT P t e m by_ z] {x y y' : Operand} {kd kd' : IntKind} {a : Option Addr} {n cap l h : Nat} {i j : Int}
    (hx : ev F x = some (.slice a n cap)) (hy : ev F y = some (.int kd i)) (hy' : ev F y' = some (.int kd' j)) (hi : i = (l : Int)) (hj : j = (h : Int)) (h1 : l ≤ h) (h2 : h ≤ cap) :
    Pur P F L ⟨dst, .slice t x (some y) (some y') none, ty, pos, aft, gd⟩ (.slice (tailA a cap l m) (h - l) (cap - l)) := by
  subst hi; subst hj
  exact Pur.slice (P := P) (F := F) (L := L) (dst := dst) (ty := ty) (pos := pos) (aft := aft) (gd := gd) (t := t) (lo := some y) (hi := some y') (l := l) (h := h) hx (.inr ⟨_, _, rfl, hy⟩) (.inr ⟨_, _, rfl, hy'⟩) h1 h2
theorem Pur.slice3 {t e m by_ : Nat} {z : Value} [ha : SlT P t e m by_ z] {x y y' y2 : Operand} {kd kd' kd2 : IntKind} {a : Option Addr} {n cap l h mx : Nat} {i j k : Int}
    (hx : ev F x = some (.slice a n cap)) (hy : ev F y = some (.int kd i)) (hy' : ev F y' = some (.int kd' j)) (hy2 : ev F y2 = some (.int kd2 k)) (hi : i = (l : Int)) (hj : j = (h : Int)) (hk : k = (mx : Int)) (h1 : l ≤ h) (h2 : h ≤ mx) (h3 : mx ≤ cap) :
    Pur P F L ⟨dst, .slice t x (some y) (some y') (some y2), ty, pos, aft, gd⟩ (.slice (tailA a mx l m) (h - l) (mx - l)) := fun ρ w hρ _ => by
  subst hi; subst hj; subst hk
  obtain ⟨i', hu, hi', hz', rfl, rfl, _⟩ := sltB_spec ha.out
  have hsz : (sizeOf e).run P w = .ok i'.size w := run_sizeOf_of (by simp [hi'])
  have hb0 : (Instr.sliceBound (ρ y2) cap .slice3Acap).run P w = .ok mx w := by
    have : (mx : Int) ≤ cap := by omega
    simp [Instr.sliceBound, hρ _ _ hy2, asIntOf, this, go_sem]
  have hb1 : (Instr.sliceBound (ρ y') mx .slice3B).run P w = .ok h w := by
    have : (h : Int) ≤ mx := by omega
    simp [Instr.sliceBound, hρ _ _ hy', asIntOf, this, go_sem]
  have hb2 : (Instr.sliceBound (ρ y) h .slice3C).run P w = .ok l w := by
    have : (l : Int) ≤ h := by omega
    simp [Instr.sliceBound, hρ _ _ hy, asIntOf, this, go_sem]
  simp [execOp, Instr.sliceAt, Instr.slice, Instr.sliceBounds, hρ _ _ hx, hu, underlying, hsz, hb0, hb1, hb2, tailA, go_sem]

theorem Eff.deleteApp {α : Type} {E : Enc α} {t e m by_ : Nat} {z : Value} [ha : SlT P t e m by_ z] {s x : Operand} {a : Option Addr} {cap i j n cap2 : Nat} {xs : List α} {f : Asn → List Asn}
    (hs : ev F s = some (.slice a i cap)) (hx : ev F x = some (.slice (tailA a cap j m) (n - j) cap2)) [hh : SlH E L a cap xs f] (hT : E.T = e) (hm : E.m = m) (hn : n = xs.length) (hij : i ≤ j) (hjn : j ≤ n) (hpos : 0 < n) :
    Eff P F L ⟨dst, .call ⟨.builtin .append, #[s, x], #[t, t]⟩, ty, pos, aft, gd⟩ (fun u M => u = .slice a (i + (n - j)) cap ∧ M = f (sl E a cap (xs.take i ++ xs.drop j))) := Eff.of_run fun ρ w hρ hw => by
  obtain ⟨i', hu, hi', hz', rfl, rfl, hzc⟩ := sltB_spec ha.out
  subst hT; subst hn
  rcases hh.own hw with ⟨_, _, h0⟩ | ⟨b, sp, rfl, q1, q2, q3, hb⟩
  · subst h0; simp at hpos
  have hall : E.all xs = E.all (xs.take j) ++ E.all (xs.drop j) := by rw [← E.all_append, List.take_append_drop]
  have hallj : (E.all (xs.take j)).length = j * E.m := by rw [E.all_len, List.length_take, Nat.min_eq_left hjn]
  have hallt : (E.all xs).take (i * E.m) = E.all (xs.take i) := by
    have : E.all xs = E.all (xs.take i) ++ E.all (xs.drop i) := by rw [← E.all_append, List.take_append_drop]
    rw [this, List.take_append_of_le_length (by rw [E.all_len, List.length_take, Nat.min_eq_left (by omega)]; exact Nat.le_refl _)]
    rw [List.take_of_length_le (by rw [E.all_len, List.length_take, Nat.min_eq_left (by omega)]; exact Nat.le_refl _)]
  have hd : (E.all (xs.drop j)).length = (xs.length - j) * i'.size := by rw [E.all_len, List.length_drop, hm]
  have hallx : (E.all xs).length = xs.length * E.m := E.all_len xs
  have hile : i * E.m ≤ xs.length * E.m := Nat.mul_le_mul_right _ (by omega)
  have hsum : i * E.m + (xs.length - j) * E.m ≤ xs.length * E.m := by rw [← Nat.add_mul]; exact Nat.mul_le_mul_right _ (by omega)
  -- the tail's address
  have hrun : ∃ p c', Value.slice (tailA (some ⟨b, 0, none⟩) cap j i'.size) (xs.length - j) cap2 = .slice (some p) (xs.length - j) c' ∧ (∀ k u, (E.all (xs.drop j))[k]? = some u → w.cell? (p.add k) = some u) := by
    unfold tailA
    by_cases hcj : cap = j
    · refine ⟨⟨b, 0, none⟩, cap2, by simp [hcj], ?_⟩
      intro k u hk
      have : xs.drop j = [] := List.drop_of_length_le (by omega)
      rw [this] at hk; simp [Enc.all] at hk
    · refine ⟨(⟨b, 0, none⟩ : Addr).add (j * i'.size), cap2, by simp [hcj], ?_⟩
      intro k u hk
      have hlt := (List.getElem?_eq_some_iff.1 hk).1
      have e1 : ((⟨b, 0, none⟩ : Addr).add (j * i'.size)).add k = ⟨b, j * i'.size + k, none⟩ := by
        unfold Addr.add; split <;> split <;> simp_all
      rw [e1, cell?_eq]
      have hlt2 : j * i'.size + k < (E.all xs).length := by
        rw [hall, List.length_append, hallj, hm]; omega
      simp only [cellH, hb, Option.isSome_none, Bool.false_eq_true, if_false, List.getElem?_toArray]
      rw [List.getElem?_append_left hlt2, hall, List.getElem?_append_right (by rw [hallj, hm]; omega), hallj, hm]
      simpa using hk
  obtain ⟨p, c', hval, hnews⟩ := hrun
  have hr := run_append_room (P := P) w t ty E.T i' hu hi' b i cap (E.all xs ++ sp).toArray hb p (xs.length - j) c' (E.all (xs.drop j)) hd hnews (E.all_one _) (by omega) (by
    rw [hd]; simp only [List.size_toArray, List.length_append, hallx]; rw [← hm]; omega)
  refine ⟨.slice (some ⟨b, 0, none⟩) (i + (xs.length - j)) cap, w.setRow b (E.all (xs.take i ++ xs.drop j) ++ (E.all xs ++ sp).drop (i * E.m + (xs.length - j) * E.m)).toArray, f (sl E (some ⟨b, 0, none⟩) cap (xs.take i ++ xs.drop j)), ?_, ⟨rfl, rfl⟩, rfl, ?_⟩
  · unfold execOp
    simp only [resolve, invoke, builtin, Sem.run_bind, Sem.run_pure, Result.andThen_ok, List.map_toArray, List.map_cons, List.map_nil, hρ _ _ hs, hρ _ _ hx, hval, hr]
    congr 3
    rw [hd, ← hm, E.all_append, ← hallt, List.take_append_of_le_length (by rw [hallx]; exact hile)]
  · refine sl_row hh hw rfl hb (.inr (by omega)) (by simp; omega) q2 ?_
    simp only [List.length_drop, List.length_append, List.length_take, hallx, q3]
    have e3 : xs.length * E.m + (cap - xs.length) * E.m = cap * E.m := by rw [← Nat.add_mul]; congr 1; omega
    have e4 : (cap - (i + (xs.length - j))) * E.m + (i * E.m + (xs.length - j) * E.m) = cap * E.m := by rw [← Nat.add_mul, ← Nat.add_mul]; congr 1; omega
    rw [e3, Nat.min_eq_left (by omega)]
    omega

theorem Eff.clearSpare {α : Type} {E : Enc α} {t e m by_ : Nat} {z : Value} [ha : SlT P t e m by_ z] {x : Operand} {a : Option Addr} {cap n k cap2 : Nat} {xs : List α} {f : Asn → List Asn}
    (hx : ev F x = some (.slice (tailA a cap n m) k cap2)) [hh : SlH E L a cap xs f] (hT : E.T = e) (hm : E.m = m) (hn : n = xs.length) (hk : n + k ≤ cap) (hone : ∀ v ∈ z.cells, v.oneCell' = true) :
    Eff P F L ⟨dst, .call ⟨.builtin .clear, #[x], #[t]⟩, ty, pos, aft, gd⟩ (fun u M => u = .tuple #[] ∧ M = f (sl E a cap xs)) := Eff.of_run fun ρ w hρ hw => by
  obtain ⟨i', hu, hi', hz', rfl, rfl, hzc⟩ := sltB_spec ha.out
  subst hT; subst hn
  have hsame : L = f (sl E a cap xs) := Rep.same (hh.out (sl E a cap xs))
  have hund : (underlying t).run P w = .ok (.slice E.T) w := run_underlying hu w
  by_cases hk0 : k = 0
  · subst hk0
    refine ⟨.tuple #[], w, _, ?_, ⟨rfl, rfl⟩, rfl, by rw [← hsame]; exact hw⟩
    unfold execOp
    simp only [resolve, invoke, builtin, Builtin.clear_, Sem.run_bind, Sem.run_pure, Result.andThen_ok, List.map_toArray, List.map_cons, List.map_nil, hρ _ _ hx]
    simp [hund]
    cases tailA a cap xs.length i'.size <;> simp
  rcases hh.own hw with ⟨_, h1, h0⟩ | ⟨b, sp, rfl, q1, q2, q3, hb⟩
  · omega
  have hcn : cap ≠ xs.length := by omega
  have hta : tailA (some ⟨b, 0, none⟩) cap xs.length i'.size = some ⟨b, xs.length * i'.size, none⟩ := by
    unfold tailA; rw [if_neg hcn]; simp only [Option.map_some, Option.some.injEq]; unfold Addr.add; split <;> simp_all
  have hzv : (zeroValue E.T).run P w = .ok z w := by simp [zeroValue, typeInfo, hi', hz', go_sem]
  have hzl : (Builtin.zeroCells z.cells k).toList.length = k * i'.size := by simp [size_zeroCells, hzc]
  have hone' : ∀ v ∈ (Builtin.zeroCells z.cells k).toList, v.oneCell' = true := by
    intro v hv
    simp only [Builtin.zeroCells, Array.toList_map, List.mem_map] at hv
    obtain ⟨i, hi, rfl⟩ := hv
    have : i % z.cells.size < z.cells.size := by
      refine Nat.mod_lt _ ?_
      rcases Nat.eq_zero_or_pos z.cells.size with h | h
      · simp [h] at hi
      · exact h
    rw [getElem!_pos z.cells _ this]
    exact hone _ (Array.getElem_mem this)
  have hkm : xs.length * i'.size + k * i'.size ≤ cap * i'.size := by rw [← Nat.add_mul]; exact Nat.mul_le_mul_right _ hk
  have hcs : (E.all xs ++ sp).length = cap * i'.size := by rw [List.length_append, E.all_len, q3, ← hm, ← Nat.add_mul]; congr 1; omega
  have hst := run_storeCells_at P b (xs.length * i'.size) E.T (Builtin.zeroCells z.cells k).toList 0 (E.all xs ++ sp).toArray w hb (by simp only [Nat.add_zero, hzl, List.size_toArray, hcs]; omega) hone'
  simp only [Nat.add_zero, hzl] at hst
  refine ⟨.tuple #[], w.setRow b (E.all xs ++ ((Builtin.zeroCells z.cells k).toList ++ (E.all xs ++ sp).drop (xs.length * i'.size + k * i'.size))).toArray, f (sl E (some ⟨b, 0, none⟩) cap xs), ?_, ⟨rfl, rfl⟩, rfl, ?_⟩
  · unfold execOp
    simp only [resolve, invoke, builtin, Builtin.clear_, Sem.run_bind, Sem.run_pure, Result.andThen_ok, List.map_toArray, List.map_cons, List.map_nil, hρ _ _ hx, hta]
    obtain ⟨k', rfl⟩ : ∃ k', k = k' + 1 := ⟨k - 1, by omega⟩
    simp [hund, hzv, hst]
    congr 1
    have : (E.all xs).length = xs.length * i'.size := by rw [E.all_len, hm]
    rw [← this, List.take_left]
  · refine sl_row hh hw rfl hb (.inr (by omega)) q1 q2 ?_
    simp only [List.length_append, hzl, List.length_drop, E.all_len, hm, q3]
    rw [← Nat.add_mul] at *
    rw [Nat.sub_mul]
    have e3 : xs.length * i'.size + (cap - xs.length) * i'.size = cap * i'.size := by rw [← Nat.add_mul]; congr 1; omega
    rw [Nat.add_mul] at *
    omega
end
end Go.KK

/- The text K13. -/
set_option linter.unusedVariables false
set_option linter.unusedSimpArgs false
namespace Go.KK

/-! A region that draws its order and ends in writes of what it has read: 'E' are the operations behind which the condition need not hold; what is taken first must come before each of them. -/
def closedB (ops : Array Oper) (listed : Array Bool) : Bool :=
  (List.range ops.size).all fun k => !listed.getD k true || match ops[k]? with
    | some o => o.after.all fun e => !Region.binds .any e || listed.getD e.on false
    | none => true
def ancB (ops : Array Oper) (i : Nat) : Nat → Nat → Bool
  | 0, _ => false
  | n + 1, k => match ops[k]? with
    | some o => o.after.any fun e => Region.binds .any e && (e.on == i || ancB ops i n e.on)
    | none => false

def Closed (ops : Array Oper) (listed : Array Bool) : Prop :=
  ∀ k o, ops[k]? = some o → listed.getD k true = true → ∀ e ∈ o.after, Region.binds .any e = true → listed.getD e.on false = true

theorem anc_waits {ops : Array Oper} {listed : Array Bool} {i : Nat} (hc : Closed ops listed) (hi : listed.getD i false = false) :
    ∀ n k, ancB ops i n k = true → ∃ o, ops[k]? = some o ∧ ∃ e ∈ o.after, Region.binds .any e = true ∧ listed.getD e.on false = false := by
  intro n
  induction n with
  | zero => intro k h; simp [ancB] at h
  | succ n ih =>
    intro k h
    simp only [ancB] at h
    cases hk : ops[k]? with
    | none => simp [hk] at h
    | some o =>
      simp only [hk] at h
      obtain ⟨e, he, hh⟩ : ∃ e ∈ o.after, (Region.binds .any e && (e.on == i || ancB ops i n e.on)) = true := by
        obtain ⟨j, hj, hh⟩ := Array.any_eq_true.1 h
        exact ⟨_, Array.getElem_mem hj, hh⟩
      simp only [Bool.and_eq_true, Bool.or_eq_true, beq_iff_eq] at hh
      obtain ⟨hb, hh⟩ := hh
      refine ⟨o, rfl, ?_⟩
      rcases hh with rfl | hh
      · exact ⟨e, he, hb, hi⟩
      · obtain ⟨o2, ho2, e2, he2, hb2, hl2⟩ := ih e.on hh
        refine ⟨e, he, hb, ?_⟩
        cases hl : listed.getD e.on false with
        | false => rfl
        | true =>
          have hl' : listed.getD e.on true = true := by
            rw [Array.getD_eq_getD_getElem?] at hl ⊢
            cases hx : listed[e.on]? with
            | none => rfl
            | some b => simp [hx] at hl ⊢; exact hl
          have := hc e.on o2 ho2 hl' e2 he2 hb2
          rw [this] at hl2; cases hl2

section
variable {P : Program} {ops : Array Oper} {Q : Exit → Act → World → Prop} {S : World → Prop}

/-- One of the operations behind which the condition need not hold has come up. -/
def hit (E : List Nat) (l : Array Bool) : Prop := ∃ e ∈ E, l.getD e false = true
def wpAnyE (P : Program) (ops : Array Oper) (Q : Exit → Act → World → Prop) (S : World → Prop) (E : List Nat) : Nat → Array Bool → Act → World → Prop
  | 0, listed, a, w => Region.ready .any ops listed = [] ∧ Q .normal a w
  | fuel + 1, listed, a, w =>
    (Region.ready .any ops listed = [] → Q .normal a w) ∧
    ∀ i ∈ Region.ready .any ops listed, wpOp P ops Q i (fun a' w' => (hit E (listed.setIfInBounds i true) ∨ S w') ∧ wpAnyE P ops Q S E fuel (listed.setIfInBounds i true) a' w') a w

theorem wpAny_of_E {E : List Nat} : ∀ (fuel : Nat) (listed : Array Bool) (a : Act) (w : World), wpAnyE P ops Q S E fuel listed a w → wpAny P .any ops Q fuel listed a w
  | 0, _, _, _, h => h
  | fuel + 1, _, _, _, h => ⟨h.1, fun i hi => wpOp_mono (fun a' w' h' => wpAny_of_E fuel _ a' w' h'.2) (h.2 i hi)⟩

theorem closed_set {listed : Array Bool} {j : Nat} (hc : Closed ops listed) (hj : j ∈ Region.ready .any ops listed) : Closed ops (listed.setIfInBounds j true) := by
  intro k o hk hl e he hb
  obtain ⟨h0, oj, hoj, hall⟩ := mem_ready.1 hj
  by_cases hkj : k = j
  · subst hkj
    rw [hk] at hoj; cases hoj
    exact getD_set_true (hall e he hb)
  · rw [getD_set_ne true (Ne.symm hkj)] at hl
    exact getD_set_true (hc k o hk hl e he hb)

theorem wpAnyE_first {E : List Nat} {i n : Nat} {oi : Oper} {v : Value} (hi : ops[i]? = some oi) (hsel : ∀ (j : Nat) (o : Oper) cs b, ops[j]? = some o → o.op ≠ .select cs b)
    (hQ : ∀ c a w, Q (.panic c) (a.put oi.dst v) w → Q (.panic c) a w) (hE : ∀ e ∈ E, ancB ops i n e = true) :
    ∀ (fuel : Nat) (listed : Array Bool) (a : Act) (w : World), Closed ops listed →
      (∀ j oj, ops[j]? = some oj → j ≠ i → listed.getD j true = false → (∀ e ∈ oj.after, Region.binds .any e = true → e.on ≠ i) → oi.apart ops oj = true) →
      i ∈ Region.ready .any ops listed → YieldsIf P ops S oi v a → S w →
      wpAnyE P ops Q S E fuel (listed.setIfInBounds i true) (a.put oi.dst v) w → wpAnyE P ops Q S E (fuel + 1) listed a w := by
  intro fuel
  induction fuel with
  | zero =>
    intro listed a w _ _ hr hy hS H
    refine ⟨fun h => (by rw [h] at hr; cases hr), fun j hj => ?_⟩
    by_cases hji : j = i
    · subst hji; exact hy.wpOp hi hS ⟨.inr hS, H⟩
    · have := ready_mono hj hji
      rw [H.1] at this
      cases this
  | succ fuel ih =>
    intro listed a w hc hfree hr hy hS H
    refine ⟨fun h => (by rw [h] at hr; cases hr), fun j hj => ?_⟩
    by_cases hji : j = i
    · subst hji; exact hy.wpOp hi hS ⟨.inr hS, H⟩
    obtain ⟨hjun, oj, hoj, hall⟩ := mem_ready.1 hj
    have hi0 : listed.getD i true = false := (mem_ready.1 hr).1
    have hi1 : listed.getD i false = false := by
      rw [Array.getD_eq_getD_getElem?] at hi0 ⊢
      cases hx : listed[i]? with
      | none => rfl
      | some b => simp [hx] at hi0 ⊢; exact hi0
    have hnot : ∀ e ∈ oj.after, Region.binds .any e = true → e.on ≠ i := fun e he hb heq => by
      have h1 := hall e he hb
      rw [heq, hi1] at h1; cases h1
    have hnoE : ¬ hit E ((listed.setIfInBounds i true).setIfInBounds j true) := fun ⟨e, he, hl⟩ => by
      obtain ⟨o, ho, e2, he2, hb, hl2⟩ := anc_waits hc hi1 n e (hE e he)
      by_cases hej : e = j
      · subst hej
        rw [hoj] at ho; cases ho
        have := hall e2 he2 hb
        rw [this] at hl2; cases hl2
      · by_cases hei : e = i
        · subst hei
          obtain ⟨_, oi2, hoi2, hall2⟩ := mem_ready.1 hr
          rw [hoi2] at ho; cases ho
          have := hall2 e2 he2 hb
          rw [this] at hl2; cases hl2
        · rw [getD_set_ne false (Ne.symm hej), getD_set_ne false (Ne.symm hei)] at hl
          have hl' : listed.getD e true = true := by
            rw [Array.getD_eq_getD_getElem?] at hl ⊢
            cases hx : listed[e]? with
            | none => rfl
            | some b => simp [hx] at hl ⊢; exact hl
          have := hc e o ho hl' e2 he2 hb
          rw [this] at hl2; cases hl2
    have h1 := H.2 j (ready_mono hj hji)
    have h2 := wpOp_putIf hoj (hfree j oj hoj hji hjun hnot) (fun cs b => hsel i oi cs b hi) (fun cs b => hsel j oj cs b hoj) hQ hy h1
    refine wpOp_mono (fun a' w' h3 => ?_) h2
    have hS' : S w' := h3.2.1.resolve_left hnoE
    refine ⟨.inr hS', ih (listed.setIfInBounds j true) a' w' (closed_set hc hj) ?_ (ready_mono hr (Ne.symm hji)) h3.1 hS' ?_⟩
    · intro k ok hk hki hun hno
      refine hfree k ok hk hki ?_ hno
      by_cases hjk : j = k
      · subst hjk; exact hjun
      · rwa [getD_set_ne true hjk] at hun
    · rw [Array.setIfInBounds_comm _ _ hji]
      exact h3.2.2
theorem hit_mono {E : List Nat} {l : Array Bool} {i : Nat} (h : hit E l) : hit E (l.setIfInBounds i true) := by
  obtain ⟨e, he, hl⟩ := h
  exact ⟨e, he, getD_set_true hl⟩
theorem hit_drop {E : List Nat} {l : Array Bool} {i j : Nat} (hij : j ≠ i) (hi : i ∉ E) (h : hit E ((l.setIfInBounds i true).setIfInBounds j true)) : hit E (l.setIfInBounds j true) := by
  obtain ⟨e, he, hl⟩ := h
  refine ⟨e, he, ?_⟩
  rw [Array.setIfInBounds_comm _ _ (Ne.symm hij)] at hl
  rwa [getD_set_ne false (fun (e2 : i = e) => hi (e2 ▸ he))] at hl
/-- What yields whatever the heap may be taken first at any time. -/
theorem wpAnyE_firstT {E : List Nat} {i : Nat} {oi : Oper} {v : Value} (hi : ops[i]? = some oi) (hsel : ∀ (j : Nat) (o : Oper) cs b, ops[j]? = some o → o.op ≠ .select cs b)
    (hQ : ∀ c a w, Q (.panic c) (a.put oi.dst v) w → Q (.panic c) a w) (hiE : i ∉ E) :
    ∀ (fuel : Nat) (listed : Array Bool) (a : Act) (w : World),
      (∀ j oj, ops[j]? = some oj → j ≠ i → listed.getD j true = false → (∀ e ∈ oj.after, Region.binds .any e = true → e.on ≠ i) → oi.apart ops oj = true) →
      i ∈ Region.ready .any ops listed → YieldsIf P ops (fun _ => True) oi v a → (hit E listed ∨ S w) →
      wpAnyE P ops Q S E fuel (listed.setIfInBounds i true) (a.put oi.dst v) w → wpAnyE P ops Q S E (fuel + 1) listed a w := by
  intro fuel
  induction fuel with
  | zero =>
    intro listed a w _ hr hy hS H
    refine ⟨fun h => (by rw [h] at hr; cases hr), fun j hj => ?_⟩
    by_cases hji : j = i
    · subst hji; exact hy.wpOp hi trivial ⟨hS.imp hit_mono id, H⟩
    · have := ready_mono hj hji
      rw [H.1] at this
      cases this
  | succ fuel ih =>
    intro listed a w hfree hr hy hS H
    refine ⟨fun h => (by rw [h] at hr; cases hr), fun j hj => ?_⟩
    by_cases hji : j = i
    · subst hji; exact hy.wpOp hi trivial ⟨hS.imp hit_mono id, H⟩
    obtain ⟨hjun, oj, hoj, hall⟩ := mem_ready.1 hj
    have hi0 : listed.getD i true = false := (mem_ready.1 hr).1
    have hi1 : listed.getD i false = false := by
      rw [Array.getD_eq_getD_getElem?] at hi0 ⊢
      cases hx : listed[i]? with
      | none => rfl
      | some b => simp [hx] at hi0 ⊢; exact hi0
    have hnot : ∀ e ∈ oj.after, Region.binds .any e = true → e.on ≠ i := fun e he hb heq => by
      have h1 := hall e he hb
      rw [heq, hi1] at h1; cases h1
    have h1 := H.2 j (ready_mono hj hji)
    have h2 := wpOp_putIf hoj (hfree j oj hoj hji hjun hnot) (fun cs b => hsel i oi cs b hi) (fun cs b => hsel j oj cs b hoj) hQ hy h1
    refine wpOp_mono (fun a' w' h3 => ?_) h2
    have hS' : hit E (listed.setIfInBounds j true) ∨ S w' := h3.2.1.imp (hit_drop hji hiE) id
    refine ⟨hS', ih (listed.setIfInBounds j true) a' w' ?_ (ready_mono hr (Ne.symm hji)) h3.1 hS' ?_⟩
    · intro k ok hk hki hun hno
      refine hfree k ok hk hki ?_ hno
      by_cases hjk : j = k
      · subst hjk; exact hjun
      · rwa [getD_set_ne true hjk] at hun
    · rw [Array.setIfInBounds_comm _ _ hji]
      exact h3.2.2
end

end Go.KK

/- The text K14. -/
set_option linter.unusedVariables false
set_option linter.unusedSimpArgs false
namespace Go.KK

theorem sl_nil_new {α : Type} {E : Enc α} {L : List Asn} {h : Hp} (hs : Sat h L) : Sat h (sl E none 0 [] :: L) :=
  ⟨fun _ => none, h, fun _ => .inl rfl, (fun _ _ hx => (by cases hx)), Hp.le_refl _, sl_iff.2 (.inl ⟨rfl, rfl, rfl⟩), hs⟩

theorem CallS.ent {P : Program} {f : FuncId} {args : Array Value} {L : List Asn} {Q : Value → List Asn → Prop}
    (h : CallS P f args L (fun v M => ∃ v' M', Q v' M' ∧ v = v' ∧ ∀ h, Sat h M → Sat h M')) : CallS P f args L Q :=
  h.mono fun v M ⟨v', M', q, e, hm⟩ => ⟨M', by rw [e]; exact q, hm⟩

theorem SlH.le {α : Type} {E : Enc α} {L : List Asn} {a : Option Addr} {cap : Nat} {xs : List α} {f : Asn → List Asn} [hh : SlH E L a cap xs f] {h : Hp} (hs : Sat h L) : xs.length ≤ cap := by
  rcases hh.own hs with ⟨_, _, h0⟩ | ⟨_, _, _, h1, _⟩
  · subst h0; simp
  · exact h1
theorem SlH.nil {α : Type} {E : Enc α} {L : List Asn} {a : Option Addr} {cap : Nat} {xs : List α} {f : Asn → List Asn} [hh : SlH E L a cap xs f] {h : Hp} (hs : Sat h L) : a = none → xs = [] ∧ cap = 0 := by
  intro ha
  rcases hh.own hs with ⟨_, h1, h0⟩ | ⟨b, _, h1, _⟩
  · exact ⟨h0, h1⟩
  · rw [ha] at h1; cases h1

section
variable {P : Program} {F : Fr} {L : List Asn} {dst : Option Tmp} {ty : TypeId} {pos : String} {aft : Array Edge} {gd : Option (Nat × Bool)}

/-- How two elements of a type are held against each other. -/
class EqE {α : Type} [DecidableEq α] (P : Program) (t : TypeId) (E : outParam (Enc α)) : Prop where
  guard : P.eqGuardType P.depth t = false
  run : ∀ (x y : α) (w : World), (Op.equal t (.agg (E.enc x).toArray) (.agg (E.enc y).toArray)).run P w = .ok (decide (x = y)) w

theorem run_eqGuard_agg {t : TypeId} {op : BinOp} {x y : Operand} {cs ds : Array Value} (h : P.eqGuardType P.depth t = false) (w : World) : (eqGuard op t x y (.agg cs) (.agg ds)).run P w = .ok () w := by
  unfold eqGuard
  cases op <;> simp [h]

theorem Pur.neqE {α : Type} [DecidableEq α] {E : Enc α} {t t' : Nat} [he : EqE P t E] {x y : Operand} {a b : α} (hx : ev F x = some (.agg (E.enc a).toArray)) (hy : ev F y = some (.agg (E.enc b).toArray)) :
    Pur P F L ⟨dst, .binOp .neq t x y t', ty, pos, aft, gd⟩ (.bool (decide (a ≠ b))) := fun ρ w hρ _ => by
  have h1 := run_eqGuard_agg (P := P) (op := .neq) (x := x) (y := y) (cs := (E.enc a).toArray) (ds := (E.enc b).toArray) he.guard w
  have h2 := he.run a b w
  unfold execOp
  simp only [Sem.run_bind, hρ _ _ hx, hρ _ _ hy, h1, Result.andThen_ok]
  simp [binOp, h2]
end

theorem JQ.callE {c : Cx} {F : Fr} {L : List Asn} {k : List Item} {ops rest : List Oper} {f d : Nat} [hb : Body c.P f] {ty : TypeId} {pos : String} {aft : Array Edge} {gd : Option (Nat × Bool)} {xs : List Operand} {vs : List Value} {tys : Array TypeId} {v0 : Value}
    (hw : wantF ops F ⟨some d, .call ⟨.value (.func f), xs.toArray, tys⟩, ty, pos, aft, gd⟩ = some true) (hn : Nat.blt d c.n = true) (hv : evL F xs = some vs) (hc : CallS c.P f vs.toArray L (fun v M => v = v0 ∧ M = L))
    (h : JQ c ops ((d, v0) :: F) L rest k) : JQ c ops F L (⟨some d, .call ⟨.value (.func f), xs.toArray, tys⟩, ty, pos, aft, gd⟩ :: rest) k :=
  JQ.call hw hn hv (hc.mono fun v M ⟨e1, e2⟩ => ⟨M, ⟨e1, fun h hs => e2 ▸ hs⟩, fun _ h => h⟩) h
theorem take_succ_eq {α : Type} {xs ys : List α} {i : Nat} (h : xs.take i = ys.take i) (h1 : i < xs.length) (h2 : i < ys.length) (e : xs[i] = ys[i]) : xs.take (i + 1) = ys.take (i + 1) := by
  rw [List.take_succ_eq_append_getElem h1, List.take_succ_eq_append_getElem h2, h, e]
theorem take_all_eq {α : Type} {xs ys : List α} {i : Nat} (h : xs.take i = ys.take i) (h1 : xs.length ≤ i) (h2 : ys.length ≤ i) : xs = ys := by
  rwa [List.take_of_length_le h1, List.take_of_length_le h2] at h

/-- A law on one assertion ahead, used wherever it stands. -/
theorem CallS.atM {P : Program} {fn : FuncId} {args : Array Value} {L : List Asn} {A B : Asn} {X : Value} {f : Asn → List Asn} (h : ∀ R, CallS P fn args (A :: R) (fun v M => v = X ∧ M = B :: R)) (hr : ∀ B, Rep A B L (f B)) :
    CallS P fn args L (fun v M => v = X ∧ M = f B) :=
  (CallS.at (Q := fun v B' => v = X ∧ B' = B) (fun R => (h R).mono fun v M ⟨e1, e2⟩ => ⟨M, ⟨B, ⟨e1, rfl⟩, e2⟩, fun _ h => h⟩) hr).mono fun v M ⟨B', ⟨e1, e2⟩, e3⟩ => ⟨M, ⟨e1, by rw [e3, e2]⟩, fun _ h => h⟩
theorem CallS.atR {P : Program} {fn : FuncId} {args : Array Value} {L : List Asn} {A : Asn} {X : Value} {f : Asn → List Asn} (h : ∀ R, CallS P fn args (A :: R) (fun v M => v = X ∧ M = A :: R)) (hr : ∀ B, Rep A B L (f B)) :
    CallS P fn args L (fun v M => v = X ∧ M = L) :=
  (CallS.atM h hr).mono fun v M ⟨e1, e2⟩ => ⟨M, ⟨e1, by rw [e2, ← Rep.same (hr A)]⟩, fun _ h => h⟩
theorem CallS.atN {P : Program} {fn : FuncId} {args : Array Value} {L : List Asn} {A : Asn} {Q : Value → Asn → Prop} {f : Asn → List Asn} (h : ∀ R, CallS P fn args (A :: R) (fun v M => ∃ N, Q v N ∧ M = N :: A :: R)) (hr : ∀ B, Rep A B L (f B)) :
    CallS P fn args L (fun v M => ∃ N, Q v N ∧ M = N :: L) := fun w hs => by
  obtain ⟨R, p1, p2⟩ := (hr A).perm
  refine (h R w (hs.perm p1)).mono fun e w' ⟨v, M, ⟨N, q, hm⟩, he, hs', hv⟩ => ⟨v, N :: L, ⟨N, q, rfl⟩, he, ?_, hv⟩
  subst hm
  exact hs'.perm (p1.symm.cons N)
end Go.KK

/- The text K15. -/
set_option linter.unusedVariables false
set_option linter.unusedSimpArgs false
namespace Go.KK
theorem SlIn.takeN {α : Type} {E : Enc α} {L : List Asn} {a : Option Addr} {xs : List α} (h : SlIn E L a xs) (k : Nat) : SlIn E L a (xs.take k) := ⟨fun hh hs => by
  rcases h.out hh hs with h0 | ⟨b, off, C, T, fz, ha, hb, hc⟩
  · subst h0; exact .inl (by simp)
  · refine .inr ⟨b, off, C, T, fz, ha, hb, fun j v hj => hc j v ?_⟩
    have e : E.all xs = E.all (xs.take k) ++ E.all (xs.drop k) := by rw [← E.all_append, List.take_append_drop]
    rw [e, List.getElem?_append_left (List.getElem?_eq_some_iff.1 hj).1]; exact hj⟩
theorem SlIn.dropN {α : Type} {E : Enc α} {L : List Asn} {a : Option Addr} {xs : List α} {cap m : Nat} (h : SlIn E L a xs) (hm : E.m = m) (k : Nat) (hc : cap = k → xs.length ≤ k) : SlIn E L (tailA a cap k m) (xs.drop k) := ⟨fun hh hs => by
  subst hm
  unfold tailA
  by_cases hk : cap = k
  · rw [if_pos hk, List.drop_of_length_le (hc hk)]; exact .inl rfl
  · rw [if_neg hk]
    rcases h.out hh hs with h0 | ⟨b, off, C, T, fz, ha, hb, hcc⟩
    · subst h0; exact .inl (by simp)
    · by_cases hkx : xs.length ≤ k
      · exact .inl (List.drop_of_length_le hkx)
      refine .inr ⟨b, off + k * E.m, C, T, fz, ?_, hb, fun j v hj => ?_⟩
      · subst ha; simp only [Option.map_some, Option.some.injEq]; unfold Addr.add; split <;> simp_all
      · have e : E.all xs = E.all (xs.take k) ++ E.all (xs.drop k) := by rw [← E.all_append, List.take_append_drop]
        have hl : (E.all (xs.take k)).length = k * E.m := by rw [E.all_len, List.length_take, Nat.min_eq_left (by omega)]
        have := hcc (k * E.m + j) v (by rw [e, List.getElem?_append_right (by omega), hl]; simpa using hj)
        rw [← this]; congr 1; omega⟩
theorem JO.effR {c : Cx} {F : Fr} {L : List Asn} {k : List Item} {ops rest : List Oper} {o : Oper} {d : Nat} {v0 : Value} (hw : wantF ops F o = some true) (hd : o.dst = some d) (hn : Nat.blt d c.n = true) (he : Eff c.P F L o (fun v M => v = v0 ∧ M = L))
    (h : JO c ops ((d, v0) :: F) L rest k) : JO c ops F L (o :: rest) k :=
  JO.eff hw hd hn he (fun v M ⟨e1, e2⟩ => by rw [e1, e2]; exact h)
end Go.KK

/- The text K16. -/
set_option linter.unusedVariables false
set_option linter.unusedSimpArgs false
namespace Go.KK

/-! The same with what has come up as the bits of a number: the side conditions are reckoned faster. -/
def lm (n m : Nat) : Array Bool := ((List.range n).map (fun k => m.testBit k)).toArray
theorem lm_get (n m k : Nat) (d : Bool) : (lm n m).getD k d = if k < n then m.testBit k else d := by
  unfold lm
  rw [Array.getD_eq_getD_getElem?]
  by_cases h : k < n
  · simp [h]
  · simp [h]
theorem lm_set {n m i : Nat} : (lm n m).setIfInBounds i true = lm n (m ||| 2 ^ i) := by
  apply Array.ext_getElem?
  intro k
  rw [Array.getElem?_setIfInBounds]
  unfold lm
  simp only [List.getElem?_toArray, List.getElem?_map, Nat.testBit_or, Nat.testBit_two_pow, List.size_toArray, List.length_map, List.length_range]
  by_cases hk : i = k
  · subst hk
    by_cases h : i < n <;> simp [h]
  · by_cases h : k < n <;> simp [h, hk]

def readyB (ops : List Oper) (m i : Nat) : Bool :=
  match ops[i]? with
  | some o => !m.testBit i && o.after.toList.all fun e => !Region.binds .any e || m.testBit e.on
  | none => false
def freeGo (all : Array Oper) (oi : Oper) (m i : Nat) : Nat → List Oper → Bool
  | _, [] => true
  | j, o :: r => (Nat.beq j i || m.testBit j || oi.apart all o || o.after.toList.any (fun e => Region.binds .any e && Nat.beq e.on i)) && freeGo all oi m i (j + 1) r
def freeB (ops : List Oper) (m i : Nat) : Bool :=
  match ops[i]? with
  | some oi => freeGo ops.toArray oi m i 0 ops
  | none => false
def ancF (ops : List Oper) (i : Nat) : Nat → Nat → Bool
  | 0, _ => false
  | n + 1, k => match ops[k]? with
    | some o => o.after.toList.any (fun e => Region.binds .any e && Nat.beq e.on i) || o.after.toList.any (fun e => Region.binds .any e && ancF ops i n e.on)
    | none => false
def selB (ops : List Oper) : Bool := ops.all fun o => match o.op with | .select .. => false | _ => true
def okT (ops : List Oper) (E : List Nat) (m i : Nat) : Bool := readyB ops m i && freeB ops m i && E.all (fun e => ancF ops i 4 e)

theorem ready_iff {ops : List Oper} {m j : Nat} (hedge : ∀ o ∈ ops, ∀ e ∈ o.after, Region.binds .any e = true → e.on < ops.length) :
    j ∈ Region.ready .any ops.toArray (lm ops.length m) ↔ readyB ops m j = true := by
  rw [mem_ready]
  unfold readyB
  constructor
  · rintro ⟨h0, o, ho, hall⟩
    have ho' : ops[j]? = some o := by simpa using ho
    have hlt : j < ops.length := (List.getElem?_eq_some_iff.1 ho').1
    rw [ho']
    rw [lm_get, if_pos hlt] at h0
    simp only [h0, Bool.not_false, Bool.true_and, List.all_eq_true]
    intro e he
    cases hb : Region.binds .any e with
    | false => rfl
    | true =>
      have := hall e (by simpa using he) hb
      rw [lm_get, if_pos (hedge o (List.mem_of_getElem? ho') e (by simpa using he) hb)] at this
      simp [this]
  · intro h
    cases ho : ops[j]? with
    | none => simp [ho] at h
    | some o =>
      simp only [ho, Bool.and_eq_true, Bool.not_eq_true', List.all_eq_true] at h
      have hlt : j < ops.length := (List.getElem?_eq_some_iff.1 ho).1
      refine ⟨by rw [lm_get, if_pos hlt]; exact h.1, o, by simpa using ho, fun e he hb => ?_⟩
      have := h.2 e (by simpa using he)
      rw [lm_get, if_pos (hedge o (List.mem_of_getElem? ho) e he hb)]
      simpa [hb] using this

def edgeB (ops : List Oper) : Bool := ops.all fun o => o.after.toList.all fun e => !Region.binds .any e || Nat.blt e.on ops.length
theorem edge_of {ops : List Oper} (h : edgeB ops = true) : ∀ o ∈ ops, ∀ e ∈ o.after, Region.binds .any e = true → e.on < ops.length := by
  intro o ho e he hb
  have h1 := List.all_eq_true.1 h o ho
  have h2 := List.all_eq_true.1 h1 e (by simpa using he)
  simp only [hb, Bool.not_true, Bool.false_or, Nat.blt_eq] at h2
  exact h2

theorem freeGo_spec {all : Array Oper} {oi : Oper} {m i : Nat} : ∀ (l : List Oper) (k : Nat), freeGo all oi m i k l = true → ∀ j o, l[j]? = some o → k + j ≠ i → m.testBit (k + j) = false → (∀ e ∈ o.after, Region.binds .any e = true → e.on ≠ i) → oi.apart all o = true
  | [], k, _, j, o, h, _, _, _ => by simp at h
  | x :: l, k, hf, j, o, h, hne, hun, hno => by
    simp only [freeGo, Bool.and_eq_true] at hf
    cases j with
    | zero =>
      simp at h; subst h
      have h1 := hf.1
      simp only [Nat.add_zero] at hne hun
      have hb : Nat.beq k i = false := by cases hb : Nat.beq k i with | true => exact absurd (Nat.eq_of_beq_eq_true hb) hne | false => rfl
      simp only [hb, hun, Bool.false_or, Bool.or_eq_true] at h1
      rcases h1 with h1 | h1
      · exact h1
      · simp only [List.any_eq_true, Bool.and_eq_true] at h1
        obtain ⟨e, he, hbd, heq⟩ := h1
        exact absurd (Nat.eq_of_beq_eq_true heq) (hno e (by simpa using he) hbd)
    | succ j =>
      simp at h
      exact freeGo_spec l (k + 1) hf.2 j o h (by omega) (by rw [show k + 1 + j = k + (j + 1) from by omega]; exact hun) hno

theorem ancF_anc {ops : List Oper} {i : Nat} : ∀ n k, ancF ops i n k = true → ancB ops.toArray i n k = true
  | 0, k, h => by simp [ancF] at h
  | n + 1, k, h => by
    simp only [ancF] at h
    cases hk : ops[k]? with
    | none => simp [hk] at h
    | some o =>
      simp only [hk, Bool.or_eq_true, List.any_eq_true, Bool.and_eq_true] at h
      simp only [ancB, List.getElem?_toArray, hk]
      rw [Array.any_eq_true]
      rcases h with ⟨e, he, hb, hq⟩ | ⟨e, he, hb, hq⟩
      · obtain ⟨j, hj, rfl⟩ := List.mem_iff_getElem.1 he
        refine ⟨j, by simpa using hj, ?_⟩
        have := Nat.eq_of_beq_eq_true hq
        simp only [Array.getElem_toList] at hb this
        simp [hb, this]
      · obtain ⟨j, hj, rfl⟩ := List.mem_iff_getElem.1 he
        refine ⟨j, by simpa using hj, ?_⟩
        simp only [Array.getElem_toList] at hb hq
        have := ancF_anc n _ hq
        simp [hb, this]

def JM (c : Cx) (ops : List Oper) (E : List Nat) (fuel m : Nat) (Lk : List Asn) (F : Fr) (L : List Asn) (k : List Item) : Prop :=
  ∀ a w, (selB ops && edgeB ops) = true → Closed ops.toArray (lm ops.length m) → OkF c.n F a → Sat (hp w) L → wpAnyE c.P ops.toArray (Qk c k w) (fun w => Sat (hp w) Lk) E fuel (lm ops.length m) a w
def JMi (c : Cx) (ops : List Oper) (E : List Nat) (fuel m i : Nat) (Lk : List Asn) (F : Fr) (L : List Asn) (k : List Item) : Prop :=
  ∀ a w, (selB ops && edgeB ops) = true → Closed ops.toArray (lm ops.length (m ||| 2 ^ i)) → OkF c.n F a → Sat (hp w) L → wpOp c.P ops.toArray (Qk c k w) i (fun a' w' => (hit E (lm ops.length (m ||| 2 ^ i)) ∨ Sat (hp w') Lk) ∧ wpAnyE c.P ops.toArray (Qk c k w) (fun w => Sat (hp w) Lk) E fuel (lm ops.length (m ||| 2 ^ i)) a' w') a w

theorem sel_of {ops : List Oper} (h : selB ops = true) : Region.noSelect ops.toArray = true := by
  unfold Region.noSelect
  rw [List.all_toArray]
  exact h

theorem closed0 (ops : List Oper) : Closed ops.toArray (lm ops.length 0) := by
  intro k o hk hl
  have hlt : k < ops.length := by
    have : ops[k]? = some o := by simpa using hk
    exact (List.getElem?_eq_some_iff.1 this).1
  rw [lm_get, if_pos hlt] at hl
  simp at hl

/-- One of E has come up. -/
def lateB (E : List Nat) (n m : Nat) : Bool := E.any fun e => Nat.blt e n && m.testBit e
theorem lateB_hit {E : List Nat} {n m : Nat} (h : lateB E n m = true) : hit E (lm n m) := by
  unfold lateB at h
  rw [List.any_eq_true] at h
  obtain ⟨e, he, h2⟩ := h
  simp only [Bool.and_eq_true, Nat.blt_eq] at h2
  exact ⟨e, he, by rw [lm_get, if_pos h2.1]; exact h2.2⟩
theorem mem_hit {E : List Nat} {n m i m' : Nat} (hm : m ||| 2 ^ i = m') (hi : i < n) (h : i ∈ E) : hit E (lm n m') := by
  subst hm
  refine ⟨i, h, ?_⟩
  rw [lm_get, if_pos hi, Nat.testBit_or, Nat.testBit_two_pow]; simp
section rules
variable {c : Cx} {F : Fr} {L : List Asn} {k : List Item} {ops : List Oper} {o : Oper} {fuel i m m' : Nat} {E : List Nat} {Lk : List Asn}

theorem J.mask {x : Code} {n : Nat} (E : List Nat) (Lk : List Asn) (hk : kind x = 2) (hm : c.P.follows .mixedOrders = true) (hl : (cOps x).length = n) (hse : (selB (cOps x) && edgeB (cOps x)) = true)
    (h : JM c (cOps x) E n 0 Lk F L k) : J c F L (.code x :: k) := fun a w hF hs => by
  cases x <;> simp only [kind, reduceCtorEq, Nat.reduceEqDiff, Nat.succ_ne_self] at hk
  case region id ops d =>
    cases d <;> simp only [kind, reduceCtorEq, Nat.reduceEqDiff] at hk
    intro fn hf hr cs
    have h1 : (Code.region id ops true).wp c.P (Qk c k w) a w := by
      refine wp_region_any hm (wpAny_of_E (S := fun w => Sat (hp w) Lk) (E := E) _ _ _ _ ?_)
      have := h a { w with drawn := w.drawn + 1 } hse (closed0 _) hF hs
      rw [Qk.to (w := w) (w' := { w with drawn := w.drawn + 1 }) rfl] at this
      simp only [cOps, Array.length_toList] at hl this
      subst hl
      have e : lm ops.size 0 = Array.replicate ops.size false := by
        apply Array.ext_getElem?
        intro j
        unfold lm
        by_cases hj : j < ops.size <;> simp [hj]
      rw [e] at this
      simpa using this
    obtain ⟨e, a', w', hq, harr⟩ := h1 (bse c.f) k cs
    cases e <;> simp only [Qk] at hq
    obtain ⟨v, L', w'', fr, q, s, hv, st, e', l⟩ := hq.2 fn hf hr cs
    exact ⟨v, L', w'', fr, q, s, hv.trans hq.1, Steps.trans harr st, e', l⟩
theorem J.mask0 {x : Code} {n : Nat} (E : List Nat) (hk : kind x = 2) (hm : c.P.follows .mixedOrders = true) (hl : (cOps x).length = n) (hse : (selB (cOps x) && edgeB (cOps x)) = true) (h : JM c (cOps x) E n 0 L F L k) : J c F L (.code x :: k) := J.mask E L hk hm hl hse h
theorem J.mask1 {x : Code} {n : Nat} {A : Asn} (E : List Nat) (hk : kind x = 2) (hm : c.P.follows .mixedOrders = true) (hl : (cOps x).length = n) (hse : (selB (cOps x) && edgeB (cOps x)) = true) (h : JM c (cOps x) E n 0 Lk F (A :: Lk) k) : J c F (A :: Lk) (.code x :: k) := J.mask E Lk hk hm hl hse h
theorem J.mask2 {x : Code} {n : Nat} {A B : Asn} (E : List Nat) (hk : kind x = 2) (hm : c.P.follows .mixedOrders = true) (hl : (cOps x).length = n) (hse : (selB (cOps x) && edgeB (cOps x)) = true) (h : JM c (cOps x) E n 0 Lk F (A :: B :: Lk) k) : J c F (A :: B :: Lk) (.code x :: k) := J.mask E Lk hk hm hl hse h
theorem JM.take0 {d : Nat} {v : Value} (i : Nat) (hk : ∀ h, Sat h L → Sat h Lk) (hi : ops[i]? = some o) (hc : okT ops E m i = true)
    (hy : ∀ a, OkF c.n F a → YieldsIf c.P ops.toArray (fun w => Sat (hp w) Lk) o v a) (hd : o.dst = some d) (hn : Nat.blt d c.n = true) (hm : Nat.lor m (2 ^ i) = m')
    (h : JM c ops E fuel m' Lk ((d, v) :: F) L k) : JM c ops E (fuel + 1) m Lk F L k := fun a w hse hcl hF hs => by
  unfold okT at hc
  simp only [Bool.and_eq_true] at hc hse
  obtain ⟨⟨h1, h2⟩, h5⟩ := hc
  have hedge := edge_of hse.2
  have hi' : ops.toArray[i]? = some o := by simpa using hi
  have hri := (ready_iff hedge).2 h1
  have hm2 : m' = m ||| 2 ^ i := hm.symm
  have hcl' : Closed ops.toArray (lm ops.length m') := by rw [hm2, ← lm_set]; exact closed_set hcl hri
  refine wpAnyE_first (n := 4) hi' (Region.noSelect_spec (sel_of hse.1)) (fun _ _ _ h => h) (fun e he => ancF_anc _ _ (List.all_eq_true.1 h5 e he)) fuel _ a w hcl ?_ hri (hy a hF) (hk _ hs) ?_
  · intro j oj hj hji hun hno
    have hj' : ops[j]? = some oj := by simpa using hj
    have hlt : j < ops.length := (List.getElem?_eq_some_iff.1 hj').1
    rw [lm_get, if_pos hlt] at hun
    unfold freeB at h2
    rw [hi] at h2
    exact freeGo_spec ops 0 h2 j oj hj' (by omega) (by simpa using hun) hno
  · rw [lm_set, ← hm2, hd]
    exact h _ w (by simp [hse]) hcl' (hF.put hn) hs
theorem JM.take {d : Nat} {v : Value} (i : Nat) (hk : ∀ h, Sat h L → Sat h Lk) (hi : ops[i]? = some o) (hc : okT ops E m i = true)
    (hw : wantF ops F o = some true) (hd : o.dst = some d) (hn : Nat.blt d c.n = true) (hm : Nat.lor m (2 ^ i) = m') (hp : Pur c.P F Lk o v)
    (h : JM c ops E fuel m' Lk ((d, v) :: F) L k) : JM c ops E (fuel + 1) m Lk F L k :=
  JM.take0 i hk hi hc (fun a hF => .inl ⟨wantF_ok hF hw, fun w' hs' => hp a.eval w' hF.ev hs'⟩) hd hn hm h
theorem JM.takeF {d : Nat} {v : Value} (i : Nat) (hk : lateB E ops.length m = true ∨ ∀ h, Sat h L → Sat h Lk) (hi : ops[i]? = some o) (hc : (readyB ops m i && freeB ops m i && !E.contains i) = true)
    (hw : wantF ops F o = some true) (hd : o.dst = some d) (hn : Nat.blt d c.n = true) (hm : Nat.lor m (2 ^ i) = m') (hp : Pur c.P F [] o v)
    (h : JM c ops E fuel m' Lk ((d, v) :: F) L k) : JM c ops E (fuel + 1) m Lk F L k := fun a w hse hcl hF hs => by
  simp only [Bool.and_eq_true, Bool.not_eq_true'] at hc hse
  obtain ⟨⟨h1, h2⟩, h5⟩ := hc
  have hedge := edge_of hse.2
  have hi' : ops.toArray[i]? = some o := by simpa using hi
  have hri := (ready_iff hedge).2 h1
  have hm2 : m' = m ||| 2 ^ i := hm.symm
  have hcl' : Closed ops.toArray (lm ops.length m') := by rw [hm2, ← lm_set]; exact closed_set hcl hri
  refine wpAnyE_firstT hi' (Region.noSelect_spec (sel_of hse.1)) (fun _ _ _ h => h) (fun he => by simp [he] at h5) fuel _ a w ?_ hri (.inl ⟨wantF_ok hF hw, fun w' _ => hp a.eval w' hF.ev trivial⟩) (hk.imp lateB_hit (fun g => g _ hs)) ?_
  · intro j oj hj hji hun hno
    have hj' : ops[j]? = some oj := by simpa using hj
    have hlt : j < ops.length := (List.getElem?_eq_some_iff.1 hj').1
    rw [lm_get, if_pos hlt] at hun
    unfold freeB at h2
    rw [hi] at h2
    exact freeGo_spec ops 0 h2 j oj hj' (by omega) (by simpa using hun) hno
  · rw [lm_set, ← hm2, hd]
    exact h _ w (by simp [hse]) hcl' (hF.put hn) hs
theorem JM.done (hr : Nat.beq (2 ^ ops.length) (m + 1) = true) (h : J c F L k) : JM c ops E fuel m Lk F L k := fun a w hse hcl hF hs => by
  have hm : m = 2 ^ ops.length - 1 := by have := Nat.eq_of_beq_eq_true hr; omega
  have hr' : Region.ready .any ops.toArray (lm ops.length m) = [] := by
    rw [List.eq_nil_iff_forall_not_mem]
    intro j hj
    obtain ⟨h0, o, ho, _⟩ := mem_ready.1 hj
    have hlt : j < ops.length := by
      have : ops[j]? = some o := by simpa using ho
      exact (List.getElem?_eq_some_iff.1 this).1
    rw [lm_get, if_pos hlt, hm, Nat.testBit_two_pow_sub_one] at h0
    simp [hlt] at h0
  cases fuel with
  | zero => exact ⟨hr', rfl, h a w hF hs⟩
  | succ n => exact ⟨fun _ => ⟨rfl, h a w hF hs⟩, by rw [hr']; simp⟩

theorem JM.many {rs : List Nat} (hr : (List.range ops.length).filter (readyB ops m) = rs) (hne : rs.isEmpty = false) (h : ∀ i ∈ rs, JMi c ops E fuel m i Lk F L k) : JM c ops E (fuel + 1) m Lk F L k := fun a w hse hcl hF hs => by
  have hse' := hse
  simp only [Bool.and_eq_true] at hse'
  have hedge := edge_of hse'.2
  have hiff : ∀ j, j ∈ Region.ready .any ops.toArray (lm ops.length m) ↔ j ∈ rs := by
    intro j
    rw [ready_iff hedge, ← hr, List.mem_filter, List.mem_range]
    constructor
    · intro hj
      refine ⟨?_, hj⟩
      unfold readyB at hj
      cases ho : ops[j]? with
      | none => simp [ho] at hj
      | some o => exact (List.getElem?_eq_some_iff.1 ho).1
    · exact fun hj => hj.2
  refine ⟨fun h0 => ?_, fun j hj => ?_⟩
  · cases rs with
    | nil => simp at hne
    | cons x r => have := (hiff x).2 (by simp); rw [h0] at this; cases this
  · rw [lm_set]
    exact h j ((hiff j).1 hj) a w hse (by rw [← lm_set]; exact closed_set hcl hj) hF hs
theorem JM.one (hr : (List.range ops.length).filter (readyB ops m) = [i]) (h : JMi c ops E fuel m i Lk F L k) : JM c ops E (fuel + 1) m Lk F L k :=
  JM.many hr rfl (fun j hj => by simp only [List.mem_singleton] at hj; subst hj; exact h)

theorem JMi.eff {d : Nat} {Q : Value → List Asn → Prop} (hi : ops[i]? = some o) (hw : wantF ops F o = some true) (hd : o.dst = some d) (hn : Nat.blt d c.n = true) (hm : Nat.lor m (2 ^ i) = m') (he : Eff c.P F L o Q)
    (h : ∀ v M, Q v M → ((i ∈ E ∨ lateB E ops.length m' = true) ∨ ∀ h, Sat h M → Sat h Lk) ∧ JM c ops E fuel m' Lk ((d, v) :: F) M k) : JMi c ops E fuel m i Lk F L k := fun a w hse hcl hF hs => by
  unfold wpOp
  have hm2 : m ||| 2 ^ i = m' := hm
  simp only [List.getElem?_toArray, hi]
  rw [if_pos (wantF_ok hF hw)]
  rw [hm2] at hcl ⊢
  refine .inl (he a w trivial hF.ev hs _ _ fun v w' M hq hs' hv => ?_)
  rw [hd, ← Qk.to hv]
  exact ⟨(h v M hq).1.imp (fun g => g.elim (mem_hit hm2 (List.getElem?_eq_some_iff.1 hi).1) lateB_hit) (fun g => g _ hs'), (h v M hq).2 _ _ hse hcl (hF.put hn) hs'⟩
theorem JMi.effN {Q : Value → List Asn → Prop} (hi : ops[i]? = some o) (hw : wantF ops F o = some true) (hd : o.dst = none) (hm : Nat.lor m (2 ^ i) = m') (he : Eff c.P F L o Q)
    (h : ∀ v M, Q v M → ((i ∈ E ∨ lateB E ops.length m' = true) ∨ ∀ h, Sat h M → Sat h Lk) ∧ JM c ops E fuel m' Lk F M k) : JMi c ops E fuel m i Lk F L k := fun a w hse hcl hF hs => by
  unfold wpOp
  have hm2 : m ||| 2 ^ i = m' := hm
  simp only [List.getElem?_toArray, hi]
  rw [if_pos (wantF_ok hF hw)]
  rw [hm2] at hcl ⊢
  refine .inl (he a w trivial hF.ev hs _ _ fun v w' M hq hs' hv => ?_)
  rw [hd, ← Qk.to hv]
  exact ⟨(h v M hq).1.imp (fun g => g.elim (mem_hit hm2 (List.getElem?_eq_some_iff.1 hi).1) lateB_hit) (fun g => g _ hs'), (h v M hq).2 _ _ hse hcl hF.none hs'⟩
theorem JMi.effR {d : Nat} {v0 : Value} (hk : ∀ h, Sat h L → Sat h Lk) (hi : ops[i]? = some o) (hw : wantF ops F o = some true) (hd : o.dst = some d) (hn : Nat.blt d c.n = true) (hm : Nat.lor m (2 ^ i) = m') (he : Eff c.P F L o (fun v M => v = v0 ∧ M = L))
    (h : JM c ops E fuel m' Lk ((d, v0) :: F) L k) : JMi c ops E fuel m i Lk F L k :=
  JMi.eff hi hw hd hn hm he (fun v M ⟨e1, e2⟩ => by rw [e1, e2]; exact ⟨.inr hk, h⟩)
theorem JMi.no {d : Nat} (hi : ops[i]? = some o) (hw : wantF ops F o = some false) (hd : o.dst = some d) (hn : Nat.blt d c.n = true) (hm : Nat.lor m (2 ^ i) = m') (hk : ∀ h, Sat h L → Sat h Lk)
    (h : JM c ops E fuel m' Lk ((d, undef) :: F) L k) : JMi c ops E fuel m i Lk F L k := fun a w hse hcl hF hs => by
  unfold wpOp
  have hm2 : m ||| 2 ^ i = m' := hm
  simp only [List.getElem?_toArray, hi]
  rw [if_neg (by rw [wantF_ok hF hw]; simp), hd]
  rw [hm2] at hcl ⊢
  exact ⟨.inr (hk _ hs), h _ _ hse hcl (hF.put hn) hs⟩
theorem JM.splitB {b : Bool} (t : Nat) (ht : get F t = some (.bool b)) (h1 : b = true → JM c ops E fuel m Lk ((t, .bool true) :: F) L k) (h2 : b = false → JM c ops E fuel m Lk ((t, .bool false) :: F) L k) : JM c ops E fuel m Lk F L k := fun a w hse hcl hF hs => by
  cases b
  · exact h2 rfl a w hse hcl (get_split ht hF) hs
  · exact h1 rfl a w hse hcl (get_split ht hF) hs
theorem JM.setv {u u' : Value} (t : Nat) (ht : get F t = some u) (e : u = u') (h : JM c ops E fuel m Lk ((t, u') :: F) L k) : JM c ops E fuel m Lk F L k := fun a w hse hcl hF hs => h a w hse hcl (get_set (e ▸ ht) hF) hs
theorem JM.fact {p : Prop} (hp : ∀ h, Sat h L → p) (h : p → JM c ops E fuel m Lk F L k) : JM c ops E fuel m Lk F L k := fun a w hse hcl hF hs => h (hp _ hs) a w hse hcl hF hs
theorem JM.imp {M : List Asn} (hL : ∀ h, Sat h L → Sat h M) (h : JM c ops E fuel m Lk F M k) : JM c ops E fuel m Lk F L k := fun a w hse hcl hF hs => h a w hse hcl hF (hL _ hs)
end rules
end Go.KK

/- The text K17. -/
set_option linter.unusedVariables false
set_option linter.unusedSimpArgs false
namespace Go.KK
open Go.ChangeShapes Go.WideShapes Go.ChangeAt Go.RowKit

/-- The heap that the call met is there still. -/
@[irreducible] def inp (h0 : Hp) : Asn := fun h => Hp.le h0 h
theorem inp_iff {h0 h : Hp} : inp h0 h ↔ Hp.le h0 h := by unfold inp; exact Iff.rfl
class Inp {α : outParam Type} (E : outParam (Enc α)) (h0 : Hp) (a : Option Addr) (xs : outParam (List α)) : Prop where
  out : slR E h0 a xs
instance Inp.slIn {α : Type} {E : Enc α} {h0 : Hp} {L : List Asn} {a : Option Addr} {xs : List α} [hh : Inp E h0 a xs] : SlIn E (inp h0 :: L) a xs := ⟨fun h hs => by
  obtain ⟨h1, l, s⟩ := hs.head
  exact hh.out.mono (Hp.le_trans (inp_iff.1 s) l)⟩

theorem sat_inp (w : World) : Sat (hp w) [inp (hp w)] := ⟨hp w, fun _ => none, fun _ => .inr rfl, Hp.le_refl _, (fun _ _ h => by cases h), inp_iff.2 (Hp.le_refl _), trivial⟩

/-- What the call leaves: below the heap's old size nothing has turned. -/
theorem below_of {W W' : World} (hs : Sat (hp W') [inp (hp W)]) (he : env W' = env W) : Below W.heap.size W W' := by
  obtain ⟨h1, l, s⟩ := hs.head
  have hl : Hp.le (hp W) (hp W') := Hp.le_trans (inp_iff.1 s) l
  unfold env at he
  simp only [Prod.mk.injEq] at he
  have hb : ∀ k, k < W.heap.size → W'.heap[k]? = W.heap[k]? := fun k hk => by
    have h2 : W.heap[k]? = some W.heap[k] := Array.getElem?_eq_getElem hk
    rw [h2]; exact hl _ _ h2
  refine ⟨he.1, he.2.1, he.2.2, ?_, hb⟩
  by_cases h0 : W.heap.size = 0
  · omega
  · have := hb (W.heap.size - 1) (by omega)
    rw [Array.getElem?_eq_getElem (show W.heap.size - 1 < W.heap.size by omega)] at this
    have := (Array.getElem?_eq_some_iff.1 this).1
    omega

theorem CallS.run {P : Program} {f : FuncId} {args : Array Value} {W : World} {v0 : Value} (h : CallS P f args [inp (hp W)] (fun v M => v = v0 ∧ M = [inp (hp W)])) :
    Calls P f args W fun e W' => e = .returned v0 ∧ Below W.heap.size W W' :=
  (h W (sat_inp W)).mono fun e W' ⟨v, M, ⟨e1, e2⟩, he, hs, hv⟩ => ⟨by rw [he, e1], below_of (by rw [← e2]; exact hs) hv⟩

theorem Enc.all_at {α : Type} (E : Enc α) : ∀ (xs : List α) (j : Nat) (v : Value), (E.all xs)[j]? = some v → ∃ i k x, j = i * E.m + k ∧ k < E.m ∧ xs[i]? = some x ∧ (E.enc x)[k]? = some v
  | [], j, v, h => by simp [Enc.all] at h
  | y :: ys, j, v, h => by
    have e : E.all (y :: ys) = E.enc y ++ E.all ys := by simp [Enc.all]
    rw [e] at h
    by_cases hj : j < E.m
    · rw [List.getElem?_append_left (by rw [E.len]; exact hj)] at h
      exact ⟨0, j, y, by simp, hj, rfl, h⟩
    · rw [List.getElem?_append_right (by rw [E.len]; omega), E.len] at h
      obtain ⟨i, k, x, h1, h2, h3, h4⟩ := E.all_at ys _ v h
      exact ⟨i + 1, k, x, by rw [Nat.add_mul]; omega, h2, by simpa using h3, h4⟩

theorem slR_of {α : Type} {E : Enc α} {w : World} {a : Addr} {xs : List α} (hm : 0 < E.m)
    (hc : ∀ i x, xs[i]? = some x → ∀ k v, k < E.m → (E.enc x)[k]? = some v → w.cell? (a.add (i * E.m + k)) = some v) : slR E (hp w) (some a) xs := by
  match xs, hc with
  | [], _ => exact .inl rfl
  | y :: ys, hc =>
    have hl : 0 < (E.enc y).length := by rw [E.len]; exact hm
    have h0 := hc 0 y rfl 0 _ hm (List.getElem?_eq_getElem hl)
    have hz : a.add (0 * E.m + 0) = a := by unfold Addr.add; simp
    rw [hz, cell?_eq] at h0
    obtain ⟨b, off, spot⟩ := a
    unfold cellH at h0
    simp only at h0
    split at h0
    · rename_i C T fz hb
      split at h0
      · cases h0
      · rename_i hs
        have : spot = none := by cases spot <;> simp_all
        subst this
        refine .inr ⟨b, off, C, T, fz, rfl, hb, fun j v hj => ?_⟩
        obtain ⟨i, k, x, rfl, hk, hx, hv⟩ := E.all_at _ j v hj
        have := hc i x hx k v hk hv
        rw [cell?_eq] at this
        have e : (⟨b, off, none⟩ : Addr).add (i * E.m + k) = ⟨b, off + (i * E.m + k), none⟩ := by unfold Addr.add; split <;> simp_all
        rw [e] at this
        simpa [cellH, hb] using this
    · cases h0

section
open Go.Deep
variable {H : Type} {enc : TypeId × Value → H} {P : Program} {w : World} {base : Nat} {spare : Nat → Bool} {held : Bool}
end
end Go.KK

/- The text K18. -/
set_option linter.unusedVariables false
set_option linter.unusedSimpArgs false
set_option linter.unusedSectionVars false
namespace Go.KK

/-! Strings. -/
theorem str_beq (a b : ByteArray) : (a == b) = decide (a = b) := by
  obtain ⟨⟨x⟩⟩ := a
  obtain ⟨⟨y⟩⟩ := b
  show ((⟨x⟩ : Array UInt8) == ⟨y⟩) = _
  by_cases h : x = y
  · subst h; simp
  · simp [h]
theorem str_eq (a b : ByteArray) : (a.toList == b.toList) = decide (a = b) := by rw [← beq_toListBytes, str_beq]
section
variable {P : Program} {F : Fr} {L : List Asn} {dst : Option Tmp} {ty : TypeId} {pos : String} {aft : Array Edge} {gd : Option (Nat × Bool)}

class StT' (P : Program) (t : TypeId) : Prop where out : P.underlying t = some .string
theorem Pur.eqlT {t t' : Nat} [ha : StT' P t] {x y : Operand} {a b : ByteArray} (hx : ev F x = some (.string a)) (hy : ev F y = some (.string b)) :
    Pur P F L ⟨dst, .binOp .eql t x y t', ty, pos, aft, gd⟩ (.bool (decide (a = b))) := fun ρ w hρ _ => by
  simp [execOp, hρ _ _ hx, hρ _ _ hy, eqGuard, binOp, Op.stringOp, str_eq, go_sem]
theorem Pur.neqT {t t' : Nat} [ha : StT' P t] {x y : Operand} {a b : ByteArray} (hx : ev F x = some (.string a)) (hy : ev F y = some (.string b)) :
    Pur P F L ⟨dst, .binOp .neq t x y t', ty, pos, aft, gd⟩ (.bool (decide (a ≠ b))) := fun ρ w hρ _ => by
  simp [execOp, hρ _ _ hx, hρ _ _ hy, eqGuard, binOp, Op.stringOp, str_eq, go_sem]
/-! Functions as values. -/
theorem Eff.callV {f : Nat} [hb : Body P f] {g : Operand} {xs : List Operand} {vs cs : List Value} {tys : Array TypeId} {Q : Value → List Asn → Prop}
    (hg : ev F g = some (.func (.func f) #[] cs.toArray)) (hv : evL F xs = some vs) (h : CallS P f (vs ++ cs).toArray L Q) :
    Eff P F L ⟨dst, .call ⟨.value g, xs.toArray, tys⟩, ty, pos, aft, gd⟩ Q := fun a w hd ha hs next Qx hn => by
  have h0 := hb.out
  unfold hasBody at h0
  split at h0
  · rename_i fn hf
    simp only [Bool.and_eq_true, Bool.not_eq_true'] at h0
    obtain ⟨h1, h2⟩ := h0
    have hbn : fn.body.isNone = false := by cases hbb : fn.body <;> simp_all
    have hargs : (xs.toArray.map a.eval) = vs.toArray := by
      have := evL_ok ha hv
      simp [this]
    have hfe : a.eval g = .func (.func f) #[] cs.toArray := ha _ _ hg
    have hr : (execOp a.eval ⟨dst, .call ⟨.value g, xs.toArray, tys⟩, ty, pos, aft, gd⟩).run P w = .ok (.enter f (vs ++ cs).toArray) w := by
      unfold execOp
      simp only [resolve, hargs, hfe, Deferred.ofValue, Sem.run_bind, Sem.run_pure, Result.andThen_ok]
      simp [invoke, callFunc, hf, hbn, go_sem]
      rw [if_neg (by simpa using h2), if_neg (by cases hbb : fn.body <;> simp_all)]
    unfold Oper.wp
    rw [hr, Oper.upon_enter]
    refine (h w hs).mono fun e w' ⟨v, M, hq, he, hs', hv⟩ => ?_
    subst he
    exact hn v w' M hq hs' hv
  · cases h0
end

/-! Maps. -/
class MapT (P : Program) (t : TypeId) (k e : outParam TypeId) : Prop where out : P.underlying t = some (.map k e)

/-- How keys of a kind look. -/
structure KeyE (κ : Type) where
  v : κ → Value
  kind : TypeDesc
  now : ∀ a b : κ, ∀ d : Decidable (a = b), Instr.sameNow kind (v a) (v b) = some (@decide (a = b) d)
  scalar : ∀ (P : Program) (w : World) (t : TypeId) (a : κ) (em : Bool), P.underlying t = some kind → (Instr.checkKey em 10000 t (v a)).run P w = .ok () w
  bits : ∀ a b : κ, a = b → Instr.sameBits 10000 (v a) (v b) = true

def strK : KeyE ByteArray := ⟨.string, .string, fun a b d => by
  show some (a == b) = _
  rw [str_beq]
  congr 1
  cases d with
  | isTrue h => simp [h]
  | isFalse h => simp [h], fun P w t a em h => by
    have hu := run_underlying (P := P) h w
    rw [show (10000 : Nat) = 9999 + 1 from rfl, Instr.checkKey.eq_def]
    simp [Sem.run_bind, hu, go_sem], fun a b h => by
    subst h
    rw [show (10000 : Nat) = 9999 + 1 from rfl, Instr.sameBits.eq_def]; simp [str_beq]⟩
def intK : KeyE Int := ⟨.int .i64, .int .i64, fun a b d => by
  show (if IntKind.i64 = IntKind.i64 then some (a == b) else none) = _
  rw [if_pos rfl]
  congr 1
  cases d with
  | isTrue h => subst h; simp
  | isFalse h => simp [h], fun P w t a em h => by
    have hu := run_underlying (P := P) h w
    rw [show (10000 : Nat) = 9999 + 1 from rfl, Instr.checkKey.eq_def]
    simp [Sem.run_bind, hu, go_sem], fun a b h => by
    subst h
    rw [show (10000 : Nat) = 9999 + 1 from rfl, Instr.sameBits.eq_def]; simp⟩

section
variable {κ : Type} [DecidableEq κ]
def alook (m : List (κ × Value)) (k : κ) : Option Value := (m.find? (fun p => decide (k = p.1))).map (·.2)
def aset (m : List (κ × Value)) (k : κ) (v : Value) : List (κ × Value) := if (alook m k).isSome then m.map (fun p => if k = p.1 then (p.1, v) else p) else m ++ [(k, v)]

def ents (K : KeyE κ) (es : Array MapEntry) (m : List (κ × Value)) : Prop := es.toList.map (fun e => (e.key, e.val)) = m.map (fun p => (K.v p.1, p.2)) ∧ (m.map (·.1)).Nodup
/-- The entries' times of birth differ, and lie in the past. -/
def bornOk (es : Array MapEntry) (clock : Nat) : Prop := (es.toList.map (·.born)).Nodup ∧ ∀ e ∈ es.toList, e.born < clock
@[irreducible] def mp (K : KeyE κ) (b : Nat) (m : List (κ × Value)) : Asn := fun h => ∃ es clock, h b = some (.map es clock) ∧ ents K es m ∧ bornOk es clock
theorem mp_iff {K : KeyE κ} {b : Nat} {m : List (κ × Value)} {h : Hp} : mp K b m h ↔ ∃ es clock, h b = some (.map es clock) ∧ ents K es m ∧ bornOk es clock := by unfold mp; exact Iff.rfl

theorem findNow_ents {K : KeyE κ} : ∀ {m : List (κ × Value)} {es : List MapEntry} (k : κ) (i : Nat), es.map (fun e => (e.key, e.val)) = m.map (fun p => (K.v p.1, p.2)) →
    Instr.findNow K.kind (K.v k) es i = some ((m.findIdx? (fun p => decide (k = p.1))).bind fun j => (m[j]?).map fun p => (i + j, p.2))
  | [], [], k, i, _ => by simp [Instr.findNow]
  | [], _ :: _, _, _, h => by simp at h
  | _ :: _, [], _, _, h => by simp at h
  | p :: m, e :: es, k, i, h => by
    simp only [List.map_cons, List.cons.injEq, Prod.mk.injEq] at h
    obtain ⟨⟨h1, h2⟩, h3⟩ := h
    unfold Instr.findNow
    rw [h1, K.now k p.1 inferInstance]
    by_cases hk : k = p.1
    · subst hk; simp [h2, List.findIdx?_cons]
    · simp only [hk, decide_false]
      rw [findNow_ents k (i + 1) h3]
      simp only [List.findIdx?_cons, hk, decide_false, Bool.false_eq_true, if_false, Option.some.injEq]
      cases hf : m.findIdx? (fun p => decide (k = p.1)) with
      | none => rfl
      | some j => simp; cases m[j]? <;> simp; omega
end

section
variable {κ : Type} [DecidableEq κ] {P : Program} {F : Fr} {L : List Asn} {dst : Option Tmp} {ty : TypeId} {pos : String} {aft : Array Edge} {gd : Option (Nat × Bool)}

theorem Eff.makeMap (K : KeyE κ) {t : Nat} :
    Eff P F L ⟨dst, .makeMap t none, ty, pos, aft, gd⟩ (fun u M => ∃ b, u = .map (some b) ∧ M = mp K b [] :: L) := Eff.of_run fun ρ w hρ hs => by
  refine ⟨.map (some w.heap.size), { w with heap := w.heap.push (.map #[] 0) }, _, rfl, ⟨w.heap.size, rfl, rfl⟩, rfl, ?_⟩
  rw [hp_push]
  refine (Sat.new (o := .map #[] 0) (hp_size w) hs).cons_imp (fun h hh => ?_) (fun _ h => h)
  rw [blk_iff] at hh
  exact mp_iff.2 ⟨_, _, hh, ⟨rfl, by simp⟩, by simp [bornOk]⟩

end
class MpIn {κ : outParam Type} (K : outParam (KeyE κ)) (L : List Asn) (b : Nat) (m : outParam (List (κ × Value))) (f : outParam (Asn → List Asn)) : Prop where out : ∀ B, Rep (mp K b m) B L (f B)
instance MpIn.head {κ : Type} {K : KeyE κ} {L : List Asn} {b : Nat} {m : List (κ × Value)} : MpIn K (mp K b m :: L) b m (fun B => B :: L) := ⟨fun _ => .head⟩
instance (priority := 900) MpIn.tail {κ : Type} {K : KeyE κ} {A : Asn} {L : List Asn} {b : Nat} {m : List (κ × Value)} {f : Asn → List Asn} [h : MpIn K L b m f] : MpIn K (A :: L) b m (fun B => A :: f B) := ⟨fun B => .tail (h.out B)⟩
end Go.KK

/- The text K19. -/
set_option linter.unusedVariables false
set_option linter.unusedSimpArgs false
set_option linter.unusedSectionVars false
namespace Go.KK

section
variable {κ : Type} [DecidableEq κ]
theorem find_bind (m : List (κ × Value)) (k : κ) : ((m.findIdx? (fun p => decide (k = p.1))).bind fun j => (m[j]?).map fun p => p.2) = alook m k := by
  unfold alook
  induction m with
  | nil => rfl
  | cons p m ih =>
    by_cases h : k = p.1
    · simp [List.findIdx?_cons, h]
    · simp only [List.findIdx?_cons, List.find?_cons, h, decide_false, Bool.false_eq_true, if_false]
      rw [← ih]
      cases hf : m.findIdx? (fun p => decide (k = p.1)) <;> simp

theorem MpIn.get {K : KeyE κ} {L : List Asn} {b : Nat} {m : List (κ × Value)} {f : Asn → List Asn} [h : MpIn K L b m f] {hh : Hp} (hs : Sat hh L) : ∃ es clock, hh b = some (.map es clock) ∧ ents K es m := by
  obtain ⟨h1, l, a⟩ := Sat.memRep (h.out (mp K b m)) hs
  obtain ⟨es, clock, e1, e2, _⟩ := mp_iff.1 a
  exact ⟨es, clock, l _ _ e1, e2⟩
theorem MpIn.getB {K : KeyE κ} {L : List Asn} {b : Nat} {m : List (κ × Value)} {f : Asn → List Asn} [h : MpIn K L b m f] {hh : Hp} (hs : Sat hh L) : ∃ es clock, hh b = some (.map es clock) ∧ ents K es m ∧ bornOk es clock := by
  obtain ⟨h1, l, a⟩ := Sat.memRep (h.out (mp K b m)) hs
  obtain ⟨es, clock, e1, e2⟩ := mp_iff.1 a
  exact ⟨es, clock, l _ _ e1, e2⟩
theorem bornOk_push {es : Array MapEntry} {c : Nat} {k v : Value} (h : bornOk es c) : bornOk (es.push ⟨k, v, c⟩) (c + 1) := by
  obtain ⟨h1, h2⟩ := h
  refine ⟨?_, fun e he => ?_⟩
  · rw [Array.toList_push, List.map_append, List.nodup_append]
    refine ⟨h1, by simp, fun a ha b hb => ?_⟩
    obtain ⟨e, he, rfl⟩ := List.mem_map.1 ha
    have := h2 e he
    simp at hb; omega
  · rw [Array.toList_push] at he
    rcases List.mem_append.1 he with h | h
    · have := h2 e h; omega
    · simp at h; rw [h]; show c < c + 1; omega
theorem bornOk_modify {es : Array MapEntry} {c j : Nat} {g : MapEntry → MapEntry} (hg : ∀ e, (g e).born = e.born) (h : bornOk es c) : bornOk (es.modify j g) c := by
  obtain ⟨h1, h2⟩ := h
  have e1 : (es.modify j g).toList.map (·.born) = es.toList.map (·.born) := by
    apply List.ext_getElem?
    intro i
    simp only [List.getElem?_map, Array.getElem?_toList, Array.getElem?_modify]
    split
    · cases es[i]? <;> simp [hg]
    · rfl
  refine ⟨by rw [e1]; exact h1, fun e he => ?_⟩
  have : e.born ∈ (es.modify j g).toList.map (·.born) := List.mem_map.2 ⟨e, he, rfl⟩
  rw [e1] at this
  obtain ⟨e', he', hb⟩ := List.mem_map.1 this
  have := h2 e' he'
  have hb2 : e'.born = e.born := hb
  omega

variable {P : Program} {F : Fr} {L : List Asn} {dst : Option Tmp} {ty : TypeId} {pos : String} {aft : Array Edge} {gd : Option (Nat × Bool)}

theorem run_findKey {K : KeyE κ} {kt : TypeId} {es : Array MapEntry} {m : List (κ × Value)} (w : World) (hk : P.underlying kt = some K.kind) (he : ents K es m) (k : κ) :
    (Instr.findKey kt (K.v k) es.toList).run P w = .ok ((m.findIdx? (fun p => decide (k = p.1))).bind fun j => (m[j]?).map fun p => (j, p.2)) w := by
  have hu := run_underlying (P := P) hk w
  unfold Instr.findKey
  simp only [Sem.run_bind, hu, Result.andThen_ok, findNow_ents k 0 he.1]
  simp

class ZeV (P : Program) (t : TypeId) (z : outParam Value) : Prop where out : (P.info? t).bind (·.zero) = some z
class KeyIs (P : Program) (t : TypeId) (K : KeyE κ) : Prop where out : P.underlying t = some K.kind

theorem run_lookup {K : KeyE κ} {t kt et : TypeId} {z : Value} (w : World) (ht : P.underlying t = some (.map kt et)) (hk : P.underlying kt = some K.kind) (hz : (P.info? et).bind (·.zero) = some z)
    {b : Nat} {es : Array MapEntry} {clock : Nat} {m : List (κ × Value)} (hb : hp w b = some (.map es clock)) (he : ents K es m) (k : κ) :
    (Instr.lookup t (.map (some b)) (K.v k) false).run P w = .ok ((alook m k).getD z) w := by
  have hu := run_underlying (P := P) ht w
  have hzv : (zeroValue et).run P w = .ok z w := by
    cases hi : P.info? et with
    | none => simp [hi] at hz
    | some i => simp [hi] at hz; simp [zeroValue, typeInfo, hi, hz, go_sem]
  have hg : (getObj b).run P w = .ok (.map es clock) w := by
    have : w.heap[b]? = some (.map es clock) := hb
    exact MapKept.run_getObj_map this
  unfold Instr.lookup
  simp only [Sem.run_bind, hu, Result.andThen_ok, hg, Sem.run_pure, K.scalar P w kt k _ hk, run_findKey w hk he]
  rw [← find_bind]
  cases hf : m.findIdx? (fun p => decide (k = p.1)) with
  | none => simp [hzv]
  | some j =>
    cases hm : m[j]? with
    | none => simp [hm, hzv]
    | some p => simp [hm]

theorem Pur.lookup {t kt et : Nat} [hT : MapT P t kt et] {z : Value} [hz : ZeV P et z] {x y : Operand} {b : Nat} {K : KeyE κ} {m : List (κ × Value)} {f : Asn → List Asn} {k : κ} [hK : KeyIs P kt K]
    (hx : ev F x = some (.map (some b))) (hy : ev F y = some (K.v k)) [hm : MpIn K L b m f] :
    Pur P F L ⟨dst, .lookup t x y false, ty, pos, aft, gd⟩ ((alook m k).getD z) := fun ρ w hρ hs => by
  obtain ⟨es, clock, hb, he⟩ := MpIn.get (b := b) (hh := hp w) hs
  have := run_lookup (P := P) w hT.out hK.out hz.out hb he k
  have hex : execOp ρ ⟨dst, .lookup t x y false, ty, pos, aft, gd⟩ = (do pure (.value (← Instr.lookup t (ρ x) (ρ y) false))) := rfl
  rw [hex, Sem.run_bind, hρ _ _ hx, hρ _ _ hy, this]
  rfl

theorem ents_len {K : KeyE κ} {es : Array MapEntry} {m : List (κ × Value)} (he : ents K es m) : es.size = m.length := by
  have := congrArg List.length he.1
  simpa using this
theorem Pur.lenM {t kt et : Nat} [hT : MapT P t kt et] {x : Operand} {b : Nat} {K : KeyE κ} {m : List (κ × Value)} {f : Asn → List Asn}
    (hx : ev F x = some (.map (some b))) [hm : MpIn K L b m f] :
    Pur P F L ⟨dst, .call ⟨.builtin .len, #[x], #[t]⟩, ty, pos, aft, gd⟩ (.int .i64 (m.length : Int)) := fun ρ w hρ hs => by
  obtain ⟨es, clock, hb, he⟩ := MpIn.get (b := b) (hh := hp w) hs
  have hu := hT.out
  have hg := MapKept.run_getObj_map (P := P) (w := w) (r := b) (es := es) (clock := clock) hb
  simp [execOp, resolve, invoke, builtin, Builtin.len_, hρ _ _ hx, hu, underlying, goInt, hg, ents_len he, go_sem]

theorem find_some {m : List (κ × Value)} {k : κ} {j : Nat} (h : m.findIdx? (fun p => decide (k = p.1)) = some j) : ∃ p, m[j]? = some p ∧ k = p.1 := by
  rw [List.findIdx?_eq_some_iff_getElem] at h
  obtain ⟨hj, h1, _⟩ := h
  exact ⟨m[j], List.getElem?_eq_getElem hj, by simpa using h1⟩

theorem set_map {m : List (κ × Value)} {k : κ} {j : Nat} {v : Value} (hn : (m.map (·.1)).Nodup) (hk : (m[j]?).map (·.1) = some k) :
    m.map (fun p => if k = p.1 then (p.1, v) else p) = m.set j (k, v) := by
  apply List.ext_getElem?
  intro i
  rw [List.getElem?_map]
  by_cases hij : j = i
  · subst hij
    cases hm : m[j]? with
    | none => simp [hm] at hk
    | some p =>
      simp only [hm, Option.map_some, Option.some.injEq] at hk
      rw [List.getElem?_set_self (by exact (List.getElem?_eq_some_iff.1 hm).1)]
      simp [hk]
  · rw [List.getElem?_set_ne hij]
    cases hi : m[i]? with
    | none => rfl
    | some q =>
      have : ¬ k = q.1 := fun e => by
        have h1 : (m.map (·.1))[j]? = some k := by rw [List.getElem?_map]; exact hk
        have h2 : (m.map (·.1))[i]? = some k := by rw [List.getElem?_map, hi, e]; rfl
        have l1 := (List.getElem?_eq_some_iff.1 h1).1
        have l2 := (List.getElem?_eq_some_iff.1 h2).1
        have hne := List.pairwise_iff_getElem.1 hn
        rw [List.getElem?_eq_getElem l1] at h1
        rw [List.getElem?_eq_getElem l2] at h2
        simp only [Option.some.injEq] at h1 h2
        rcases Nat.lt_or_gt_of_ne hij with h | h
        · exact hne j i l1 l2 h (h1.trans h2.symm)
        · exact hne i j l2 l1 h (h2.trans h1.symm)
      simp [this]

theorem ents_push {K : KeyE κ} {es : Array MapEntry} {m : List (κ × Value)} (he : ents K es m) {k : κ} {v : Value} {c : Nat} (hk : alook m k = none) : ents K (es.push ⟨K.v k, v, c⟩) (aset m k v) := by
  have e : aset m k v = m ++ [(k, v)] := by unfold aset; rw [hk]; simp
  rw [e]
  refine ⟨by simp [he.1], ?_⟩
  rw [List.map_append, List.nodup_append]
  refine ⟨he.2, by simp, ?_⟩
  intro a ha b hb
  simp only [List.map_cons, List.map_nil, List.mem_singleton] at hb
  subst hb
  intro e2
  subst e2
  unfold alook at hk
  obtain ⟨p, hp, rfl⟩ := List.mem_map.1 ha
  have : (m.find? (fun q => decide (p.1 = q.1))).isSome := by rw [List.find?_isSome]; exact ⟨p, hp, by simp⟩
  cases hf : m.find? (fun q => decide (p.1 = q.1)) with
  | none => rw [hf] at this; cases this
  | some q => rw [hf] at hk; cases hk
theorem ents_set {K : KeyE κ} {es : Array MapEntry} {m : List (κ × Value)} (he : ents K es m) {k : κ} {v : Value} {j : Nat} (hj : m.findIdx? (fun p => decide (k = p.1)) = some j) :
    ents K (es.modify j fun e => { e with key := K.v k, val := v }) (aset m k v) := by
  obtain ⟨p, hp, hkp⟩ := find_some hj
  have hs : (alook m k).isSome := by rw [← find_bind, hj]; simp [hp]
  have e : aset m k v = m.set j (k, v) := by unfold aset; rw [if_pos hs]; exact set_map he.2 (by rw [hp, hkp]; rfl)
  rw [e]
  refine ⟨?_, ?_⟩
  · apply List.ext_getElem?
    intro i
    have hi := congrArg (fun l => l[i]?) he.1
    simp only [List.getElem?_map, Array.getElem?_toList] at hi
    simp only [List.getElem?_map, Array.getElem?_toList, Array.getElem?_modify]
    by_cases hij : j = i
    · subst hij
      rw [List.getElem?_set_self (List.getElem?_eq_some_iff.1 hp).1]
      rw [hp] at hi
      cases hes : es[j]? with
      | none => rw [hes] at hi; cases hi
      | some x => simp
    · rw [List.getElem?_set_ne hij]; simp only [hij, if_false]; exact hi
  · have : (m.set j (k, v)).map (·.1) = m.map (·.1) := by
      rw [List.map_set]
      apply List.ext_getElem?
      intro i
      by_cases hij : j = i
      · subst hij
        rw [List.getElem?_set_self (by simpa using (List.getElem?_eq_some_iff.1 hp).1), List.getElem?_map, hp, hkp]; rfl
      · rw [List.getElem?_set_ne hij]
    rw [this]; exact he.2

theorem Eff.mapUpdate {t kt et : Nat} [hT : MapT P t kt et] {x y u : Operand} {b : Nat} {K : KeyE κ} {m : List (κ × Value)} {f : Asn → List Asn} {k : κ} {v : Value} [hK : KeyIs P kt K]
    (hx : ev F x = some (.map (some b))) (hy : ev F y = some (K.v k)) (hu : ev F u = some v) [hm : MpIn K L b m f] :
    Eff P F L ⟨dst, .mapUpdate t x y u, ty, pos, aft, gd⟩ (fun r M => r = undef ∧ M = f (mp K b (aset m k v))) := Eff.of_skip fun ρ w hρ hs => by
  obtain ⟨es, clock, hb, he, hbo⟩ := MpIn.getB (b := b) (hh := hp w) hs
  have hut := run_underlying (P := P) hT.out w
  have hg := MapKept.run_getObj_map (P := P) (w := w) (r := b) (es := es) (clock := clock) hb
  have hex : execOp ρ ⟨dst, .mapUpdate t x y u, ty, pos, aft, gd⟩ = (do Instr.mapUpdate t (ρ x) (ρ y) (ρ u); pure .skip) := rfl
  obtain ⟨es', clock', hrun, hents⟩ : ∃ es' clock', (Instr.mapUpdate t (.map (some b)) (K.v k) v).run P w = .ok () { w with heap := w.heap.setIfInBounds b (.map es' clock') } ∧ ents K es' (aset m k v) ∧ bornOk es' clock' := by
    unfold Instr.mapUpdate
    simp only [Sem.run_bind, hut, Result.andThen_ok, hg, K.scalar P w kt k _ hK.out, run_findKey w hK.out he]
    cases hf : m.findIdx? (fun p => decide (k = p.1)) with
    | none =>
      refine ⟨es.push ⟨K.v k, v, clock⟩, clock + 1, ?_, ents_push (c := clock) he (by rw [← find_bind, hf]; rfl), bornOk_push hbo⟩
      exact MapKept.run_setObj_map _ hb
    | some j =>
      obtain ⟨p, hp, hkp⟩ := find_some hf
      refine ⟨_, clock, ?_, ents_set he hf, bornOk_modify (fun _ => rfl) hbo⟩
      have hkey : ((es[j]?).map (·.key)).getD (K.v k) = K.v k := by
        have := congrArg (fun l => l[j]?) he.1
        simp only [List.getElem?_map, Array.getElem?_toList, hp, Option.map_some] at this
        cases hes : es[j]? with
        | none => rfl
        | some e => rw [hes] at this; simp only [Option.map_some, Option.some.injEq, Prod.mk.injEq] at this; simp [this.1, hkp]
      simp only [Option.bind_some, hp, Option.map_some, Instr.keyThatStays, hkey, K.bits k k rfl, if_true, Sem.run_bind, Sem.run_pure, Result.andThen_ok]
      exact MapKept.run_setObj_map _ hb
  refine ⟨{ w with heap := w.heap.setIfInBounds b (.map es' clock') }, f (mp K b (aset m k v)), ?_, ⟨rfl, rfl⟩, ?_, ?_⟩
  · rw [hex, Sem.run_bind, hρ _ _ hx, hρ _ _ hy, hρ _ _ hu, hrun]; rfl
  · rfl
  · refine Sat.frameRep (hm.out _) hs fun h1 hA hl1 => ?_
    obtain ⟨es1, c1, hb1, _⟩ := mp_iff.1 hA
    refine ⟨Hp.upd h1 b (.map es' clock'), mp_iff.2 ⟨es', clock', by simp [Hp.upd], hents⟩, ?_, ?_, ?_⟩
    · intro z o hz
      unfold Hp.upd at hz
      by_cases e : z = b
      · subst e
        simp only [if_true, Option.some.injEq] at hz
        subst hz
        have : z < w.heap.size := (Array.getElem?_eq_some_iff.1 hb).1
        simp [hp, this]
      · simp only [e, if_false] at hz
        have := hl1 _ _ hz
        unfold hp at *
        simp only [Array.getElem?_setIfInBounds]
        rw [if_neg (fun h => e h.symm)]; exact this
    · intro z hz
      unfold Hp.upd at hz
      by_cases e : z = b
      · left; rw [e, hb1]; simp
      · left; simpa [e] using hz
    · intro z o hz hno
      unfold hp at *
      simp only [Array.getElem?_setIfInBounds]
      by_cases e : z = b
      · rw [e, hb1] at hno; cases hno
      · rw [if_neg (fun h => e h.symm)]; exact hz
end
end Go.KK

/- The text K20. -/
set_option linter.unusedVariables false
set_option linter.unusedSimpArgs false
set_option linter.unusedSectionVars false
namespace Go.KK

/-! Slices of slices: the headers are a slice of their own, the rows are owned together. -/
structure Hdr where
  a : Option Addr
  n : Nat
  cap : Nat
  deriving Inhabited
def hdrE (T : TypeId) : Enc Hdr := ⟨T, 1, fun h => [.slice h.a h.n h.cap], fun _ => rfl, fun s v h => by
  simp only [List.mem_cons, List.not_mem_nil, or_false] at h; rcases h with rfl; rfl⟩

section
variable {α : Type} {E : Enc α}
def rowL (E : Enc α) (hs : List Hdr) (xss : List (List α)) : List Asn := (hs.zip xss).map fun p => sl E p.1.a p.1.cap p.2
@[irreducible] def rows (E : Enc α) (hs : List Hdr) (xss : List (List α)) : Asn := fun h => hs.map (·.n) = xss.map (·.length) ∧ Sat h (rowL E hs xss)
/-- All rows but one. -/
@[irreducible] def rowsBut (E : Enc α) (i : Nat) (hs : List Hdr) (xss : List (List α)) : Asn := fun h => hs.map (·.n) = xss.map (·.length) ∧ Sat h ((rowL E hs xss).eraseIdx i)

theorem rowL_get {hs : List Hdr} {xss : List (List α)} {i : Nat} {hd : Hdr} {xs : List α} (h1 : hs[i]? = some hd) (h2 : xss[i]? = some xs) : (rowL E hs xss)[i]? = some (sl E hd.a hd.cap xs) := by
  have h := (List.getElem?_zip_eq_some (l₁ := hs) (l₂ := xss) (z := (hd, xs)) (i := i)).2 ⟨h1, h2⟩
  simp only [rowL, List.getElem?_map, h, Option.map_some]

theorem rows_iff {hs : List Hdr} {xss : List (List α)} {L : List Asn} {h : Hp} : Sat h (rows E hs xss :: L) ↔ hs.map (·.n) = xss.map (·.length) ∧ Sat h (rowL E hs xss ++ L) := by
  rw [← Sat.star]
  constructor
  · rintro ⟨h1, h2, d, l1, l2, a, s⟩
    unfold rows at a
    exact ⟨a.1, h1, h2, d, l1, l2, a.2, s⟩
  · rintro ⟨e, h1, h2, d, l1, l2, a, s⟩
    refine ⟨h1, h2, d, l1, l2, ?_, s⟩
    unfold rows
    exact ⟨e, a⟩
theorem rowsBut_iff {i : Nat} {hs : List Hdr} {xss : List (List α)} {L : List Asn} {h : Hp} : Sat h (rowsBut E i hs xss :: L) ↔ hs.map (·.n) = xss.map (·.length) ∧ Sat h ((rowL E hs xss).eraseIdx i ++ L) := by
  rw [← Sat.star]
  constructor
  · rintro ⟨h1, h2, d, l1, l2, a, s⟩
    unfold rowsBut at a
    exact ⟨a.1, h1, h2, d, l1, l2, a.2, s⟩
  · rintro ⟨e, h1, h2, d, l1, l2, a, s⟩
    refine ⟨h1, h2, d, l1, l2, ?_, s⟩
    unfold rowsBut
    exact ⟨e, a⟩

theorem perm_erase {β : Type} : ∀ {l : List β} {i : Nat} {x : β}, l[i]? = some x → l.Perm (x :: l.eraseIdx i)
  | y :: l, 0, x, h => by simp at h; subst h; simp
  | y :: l, i + 1, x, h => by
    simp only [List.getElem?_cons_succ] at h
    simp only [List.eraseIdx_cons_succ]
    exact ((perm_erase h).cons y).trans (.swap _ _ _)
theorem perm_set {β : Type} : ∀ {l : List β} {i : Nat} {x y : β}, l[i]? = some x → (l.set i y).Perm (y :: l.eraseIdx i)
  | z :: l, 0, x, y, h => by simp
  | z :: l, i + 1, x, y, h => by
    simp only [List.getElem?_cons_succ] at h
    simp only [List.eraseIdx_cons_succ, List.set_cons_succ]
    exact ((perm_set h).cons z).trans (.swap _ _ _)

theorem rows_open {hs : List Hdr} {xss : List (List α)} {L : List Asn} {h : Hp} {i : Nat} {hd : Hdr} {xs : List α} (h1 : hs[i]? = some hd) (h2 : xss[i]? = some xs) (s : Sat h (rows E hs xss :: L)) :
    Sat h (sl E hd.a hd.cap xs :: rowsBut E i hs xss :: L) := by
  obtain ⟨e, s⟩ := rows_iff.1 s
  have p := (perm_erase (rowL_get (E := E) h1 h2)).append_right L
  have s2 := s.perm p
  simp only [List.cons_append] at s2
  obtain ⟨k1, k2, d, l1, l2, a, s3⟩ := s2
  exact ⟨k1, k2, d, l1, l2, a, rowsBut_iff.2 ⟨e, s3⟩⟩

theorem set_same {β : Type} {l : List β} {i : Nat} {x : β} (h : l[i]? = some x) : l.set i x = l := by
  apply List.ext_getElem?
  intro j
  by_cases hij : i = j
  · subst hij; rw [List.getElem?_set_self (List.getElem?_eq_some_iff.1 h).1, h]
  · rw [List.getElem?_set_ne hij]
end
class RowsIn {α : outParam Type} (E : outParam (Enc α)) (L : List Asn) (hs : List Hdr) (xss : outParam (List (List α))) : Prop where
  out : ∀ h, Sat h L → hs.map (·.n) = xss.map (·.length) ∧ ∀ A ∈ rowL E hs xss, ∃ h1, Hp.le h1 h ∧ A h1
instance RowsIn.head {α : Type} {E : Enc α} {L : List Asn} {hs : List Hdr} {xss : List (List α)} : RowsIn E (rows E hs xss :: L) hs xss := ⟨fun h s => by
  obtain ⟨e, s⟩ := rows_iff.1 s
  exact ⟨e, fun A hA => Sat.mem (List.mem_append_left _ hA) s⟩⟩
instance (priority := 900) RowsIn.tail {α : Type} {E : Enc α} {A : Asn} {L : List Asn} {hs : List Hdr} {xss : List (List α)} [hh : RowsIn E L hs xss] : RowsIn E (A :: L) hs xss := ⟨fun h s => hh.out h s.tail⟩
theorem RowsIn.row {α : Type} {E : Enc α} {L : List Asn} {hs : List Hdr} {xss : List (List α)} (hh : RowsIn E L hs xss) {i : Nat} {hd : Hdr} {xs : List α} (h1 : hs[i]? = some hd) (h2 : xss[i]? = some xs) : SlIn E L hd.a xs := ⟨fun h s => by
  obtain ⟨_, hA⟩ := hh.out h s
  obtain ⟨k, l, a⟩ := hA _ (List.mem_of_getElem? (rowL_get (E := E) h1 h2))
  exact (sl.slR a).mono l⟩
theorem RowsBut.row {α : Type} {E : Enc α} {L : List Asn} {hs : List Hdr} {xss : List (List α)} {i j : Nat} (hm : rowsBut E i hs xss ∈ L) (hij : i ≠ j) {hd : Hdr} {xs : List α} (h1 : hs[j]? = some hd) (h2 : xss[j]? = some xs) : SlIn E L hd.a xs := ⟨fun h s => by
  obtain ⟨k, l, a⟩ := Sat.mem hm s
  unfold rowsBut at a
  have hg := rowL_get (E := E) h1 h2
  have hmem : sl E hd.a hd.cap xs ∈ (rowL E hs xss).eraseIdx i := by
    rw [List.mem_eraseIdx_iff_getElem?]
    exact ⟨j, fun e => hij e.symm, hg⟩
  obtain ⟨k2, l2, a2⟩ := Sat.mem hmem a.2
  exact (sl.slR a2).mono (Hp.le_trans l2 l)⟩
end Go.KK

/- The text K21. -/
set_option linter.unusedVariables false
set_option linter.unusedSimpArgs false
namespace Go.KK
section
variable {P : Program} {F : Fr} {L : List Asn} {dst : Option Tmp} {ty : TypeId} {pos : String} {aft : Array Edge} {gd : Option (Nat × Bool)}
theorem Pur.max2 {x y : Operand} {k : IntKind} {a b : Int} {tys : Array TypeId} (hx : ev F x = some (.int k a)) (hy : ev F y = some (.int k b)) :
    Pur P F L ⟨dst, .call ⟨.builtin .max, #[x, y], tys⟩, ty, pos, aft, gd⟩ (.int k (max a b)) := fun ρ w hρ _ => by
  have e : (if b > a then b else a) = max a b := by split <;> omega
  simp [execOp, resolve, invoke, builtin, Builtin.max_, Builtin.max2, hρ _ _ hx, hρ _ _ hy, go_sem]
  exact e
theorem Pur.min2 {x y : Operand} {k : IntKind} {a b : Int} {tys : Array TypeId} (hx : ev F x = some (.int k a)) (hy : ev F y = some (.int k b)) :
    Pur P F L ⟨dst, .call ⟨.builtin .min, #[x, y], tys⟩, ty, pos, aft, gd⟩ (.int k (min a b)) := fun ρ w hρ _ => by
  have e : (if b < a then b else a) = min a b := by split <;> omega
  simp [execOp, resolve, invoke, builtin, Builtin.min_, Builtin.min2, hρ _ _ hx, hρ _ _ hy, go_sem]
  exact e
end
end Go.KK

/- The text K22. -/
/-!
  Lists of assertions put in another order, or shortened, by instances.
-/
set_option linter.unusedVariables false
set_option linter.unusedSimpArgs false
namespace Go.KK
class PullC (A : Asn) (L : List Asn) (R : outParam (List Asn)) : Prop where out : L.Perm (A :: R)
instance PullC.head {A : Asn} {L : List Asn} : PullC A (A :: L) L := ⟨.refl _⟩
instance (priority := 900) PullC.tail {A B : Asn} {L R : List Asn} [h : PullC A L R] : PullC A (B :: L) (B :: R) := ⟨(h.out.cons B).trans (.swap _ _ _)⟩
class SubC (L M : List Asn) : Prop where out : ∀ h, Sat h L → Sat h M
instance (priority := 1100) SubC.refl {L : List Asn} : SubC L L := ⟨fun _ h => h⟩
instance (priority := 1050) SubC.nil {L : List Asn} : SubC L [] := ⟨fun _ _ => trivial⟩
instance SubC.cons {A : Asn} {L R M : List Asn} [h : PullC A L R] [s : SubC R M] : SubC L (A :: M) := ⟨fun k hs => (hs.perm h.out).cons_imp (fun _ h => h) (fun _ h => s.out _ h)⟩
instance (priority := 800) SubC.drop {B : Asn} {L M : List Asn} [s : SubC L M] : SubC (B :: L) M := ⟨fun k hs => s.out k hs.tail⟩

section
variable {P : Program} {f : FuncId} {args : Array Value} {L : List Asn} {Q : Value → List Asn → Prop}
theorem CallS.p1 {A : Asn} {R : List Asn} (hp : PullC A L R) (h : CallS P f args (A :: R) Q) : CallS P f args L Q := h.pre fun _ hs => hs.perm hp.out
theorem CallS.p2 {A B : Asn} {R R' : List Asn} (hp : PullC A L R) (hq : PullC B R R') (h : CallS P f args (A :: B :: R') Q) : CallS P f args L Q := h.pre fun _ hs => hs.perm (hp.out.trans (hq.out.cons _))
theorem CallS.p3 {A B D : Asn} {R R' R2 : List Asn} (hp : PullC A L R) (hq : PullC B R R') (hr : PullC D R' R2) (h : CallS P f args (A :: B :: D :: R2) Q) : CallS P f args L Q := h.pre fun _ hs => hs.perm (hp.out.trans ((hq.out.trans (hr.out.cons _)).cons _))
theorem CallS.p4 {A B D D' : Asn} {R R' R2 R3 : List Asn} (hp : PullC A L R) (hq : PullC B R R') (hr : PullC D R' R2) (hv : PullC D' R2 R3) (h : CallS P f args (A :: B :: D :: D' :: R3) Q) : CallS P f args L Q := h.pre fun _ hs => hs.perm (hp.out.trans ((hq.out.trans ((hr.out.trans (hv.out.cons _)).cons _)).cons _))
end
section rules
variable {c : Cx} {F : Fr} {L M : List Asn} {k : List Item} {ops rest : List Oper}
theorem J.sub [s : SubC L M] (h : J c F M k) : J c F L k := J.imp s.out h
theorem JO.sub [s : SubC L M] (h : JO c ops F M rest k) : JO c ops F L rest k := JO.imp s.out h
/-- The ways through a block meet: what is behind it is walked once. -/
theorem J.cut {ι : Type} {x : Item} (good : ι → Prop) (I : ι → Fr) (F0 : Fr) (H : ι → List Asn) (hF0 : Picks F F0) (h1 : ∀ i, good i → J c (I i ++ F0) (H i) k)
    (h2 : (∀ i, good i → J c (I i ++ F0) (H i) k) → J c F L (x :: k)) : J c F L (x :: k) := h2 h1
end rules
class SlP {α : outParam Type} (E : outParam (Enc α)) (a : Option Addr) (cap : Nat) (L : List Asn) (xs : outParam (List α)) (R : outParam (List Asn)) : Prop where out : L.Perm (sl E a cap xs :: R)
instance SlP.head {α : Type} {E : Enc α} {a : Option Addr} {cap : Nat} {L : List Asn} {xs : List α} : SlP E a cap (sl E a cap xs :: L) xs L := ⟨.refl _⟩
instance (priority := 900) SlP.tail {α : Type} {E : Enc α} {a : Option Addr} {cap : Nat} {B : Asn} {L R : List Asn} {xs : List α} [h : SlP E a cap L xs R] : SlP E a cap (B :: L) xs (B :: R) := ⟨(h.out.cons B).trans (.swap _ _ _)⟩
class RowP {α : outParam Type} (E : outParam (Enc α)) (hs : List Hdr) (L : List Asn) (xss : outParam (List (List α))) (R : outParam (List Asn)) : Prop where out : L.Perm (rows E hs xss :: R)
instance RowP.head {α : Type} {E : Enc α} {hs : List Hdr} {L : List Asn} {xss : List (List α)} : RowP E hs (rows E hs xss :: L) xss L := ⟨.refl _⟩
instance (priority := 900) RowP.tail {α : Type} {E : Enc α} {hs : List Hdr} {B : Asn} {L R : List Asn} {xss : List (List α)} [h : RowP E hs L xss R] : RowP E hs (B :: L) xss (B :: R) := ⟨(h.out.cons B).trans (.swap _ _ _)⟩
class RBP {α : outParam Type} (E : outParam (Enc α)) (i : Nat) (hs : List Hdr) (L : List Asn) (xss : outParam (List (List α))) (R : outParam (List Asn)) : Prop where out : L.Perm (rowsBut E i hs xss :: R)
instance RBP.head {α : Type} {E : Enc α} {i : Nat} {hs : List Hdr} {L : List Asn} {xss : List (List α)} : RBP E i hs (rowsBut E i hs xss :: L) xss L := ⟨.refl _⟩
instance (priority := 900) RBP.tail {α : Type} {E : Enc α} {i : Nat} {hs : List Hdr} {B : Asn} {L R : List Asn} {xss : List (List α)} [h : RBP E i hs L xss R] : RBP E i hs (B :: L) xss (B :: R) := ⟨(h.out.cons B).trans (.swap _ _ _)⟩
section
variable {α : Type} {E : Enc α}
theorem RowsIn.n {L : List Asn} {hs : List Hdr} {xss : List (List α)} [hh : RowsIn E L hs xss] {h : Hp} (s : Sat h L) : hs.map (·.n) = xss.map (·.length) := (hh.out h s).1
theorem hdr_n {hs : List Hdr} {xss : List (List α)} (e : hs.map (·.n) = xss.map (·.length)) {i : Nat} {hd : Hdr} {xs : List α} (h1 : hs[i]? = some hd) (h2 : xss[i]? = some xs) : hd.n = xs.length := by
  have := congrArg (·[i]?) e
  simp only [List.getElem?_map, h1, h2, Option.map_some, Option.some.injEq] at this
  exact this
end
class RBIn {α : outParam Type} (E : outParam (Enc α)) (L : List Asn) (i : Nat) (hs : List Hdr) (xss : outParam (List (List α))) : Prop where out : rowsBut E i hs xss ∈ L
theorem RBIn.row {α : Type} {E : Enc α} {L : List Asn} {hs : List Hdr} {xss : List (List α)} {i j : Nat} (hh : RBIn E L i hs xss) (hij : i ≠ j) {hd : Hdr} {xs : List α} (h1 : hs[j]? = some hd) (h2 : xss[j]? = some xs) : SlIn E L hd.a xs := RowsBut.row hh.out hij h1 h2
instance RBIn.head {α : Type} {E : Enc α} {L : List Asn} {i : Nat} {hs : List Hdr} {xss : List (List α)} : RBIn E (rowsBut E i hs xss :: L) i hs xss := ⟨List.mem_cons_self⟩
instance (priority := 900) RBIn.tail {α : Type} {E : Enc α} {A : Asn} {L : List Asn} {i : Nat} {hs : List Hdr} {xss : List (List α)} [hh : RBIn E L i hs xss] : RBIn E (A :: L) i hs xss := ⟨List.mem_cons_of_mem _ hh.out⟩
end Go.KK

/- The text K23. -/
/-!
  Scopes, labels, results that lie in memory.
-/
set_option linter.unusedVariables false
set_option linter.unusedSimpArgs false
namespace Go.KK
def isLab : Code → Bool | .label _ => true | _ => false
section rules
variable {c : Cx} {F : Fr} {L M : List Asn} {k : List Item}
theorem J.label {x : Code} (hk : isLab x = true) (h : J c F L k) : J c F L (.code x :: k) := fun a w hF hs =>
  Go1.of_steps (fun cs => by
    cases x <;> simp only [isLab, Bool.false_eq_true, reduceCtorEq] at hk
    case label => exact .one step_label) (h a w hF hs)
theorem J.scope {x : Code} (hk : kind x = 8) (h : J c F L (.code (cL x) :: .inScope (cL x) :: k)) : J c F L (.code x :: k) := fun a w hF hs =>
  Go1.of_steps (fun cs => by
    cases x <;> simp only [kind, reduceCtorEq, Nat.reduceEqDiff, Nat.succ_ne_self] at hk
    case scope => exact .one step_scope
    case region id ops d => cases d <;> simp [kind] at hk) (h a w hF hs)
theorem J.inScope {x : Code} (h : J c F L k) : J c F L (.inScope x :: k) := fun a w hF hs => Go1.of_steps (fun _ => .one step_inScope) (h a w hF hs)
end rules

inductive ResL (P : Program) (F : Fr) (L : List Asn) : List ResultVar → List Value → Prop
  | nil : ResL P F L [] []
  | tmp {t : Nat} {v : Value} {r : List ResultVar} {vs : List Value} : get F t = some v → ResL P F L r vs → ResL P F L (.tmp t :: r) (v :: vs)
  | cell {a t : Nat} {p : Addr} {v : Value} {r : List ResultVar} {vs : List Value} : get F a = some (.pointer (some p)) → (∀ w, Sat (hp w) L → (loadVar t p).run P w = .ok v w) → ResL P F L r vs → ResL P F L (.cell a t :: r) (v :: vs)
theorem ResL.len {P : Program} {F : Fr} {L : List Asn} {rs : List ResultVar} {vs : List Value} (h : ResL P F L rs vs) : vs.length = rs.length := by
  induction h <;> simp_all

theorem run_mapM_res (P : Program) (w : World) (tmps : Array Value) (F : Fr) (L : List Asn) (hs : Sat (hp w) L) (hF : ∀ t v, get F t = some v → tmps.getD t undef = v) (g : ResultVar → Sem Value)
    (hg : ∀ t, g (.tmp t) = Pure.pure (tmps.getD t undef)) (hg2 : ∀ a t, g (.cell a t) = (do loadVar t (← asAddr (tmps.getD a undef)))) {rs : List ResultVar} {vs : List Value} (h : ResL P F L rs vs) :
    ∀ (acc : List Value), (List.mapM.loop g rs acc).run P w = .ok (acc.reverse ++ vs) w := by
  induction h with
  | nil => intro acc; simp [List.mapM.loop, run_pure]
  | @tmp t v r vs hv _ ih =>
    intro acc
    have e : List.mapM.loop g (.tmp t :: r) acc = (do let v ← g (.tmp t); List.mapM.loop g r (v :: acc)) := rfl
    rw [e, Sem.run_bind, hg, hF _ _ hv, run_pure]
    simp only [Result.andThen]
    rw [ih]; simp
  | @cell a t p v r vs hv hl _ ih =>
    intro acc
    have e : List.mapM.loop g (.cell a t :: r) acc = (do let v ← g (.cell a t); List.mapM.loop g r (v :: acc)) := rfl
    have e2 : (g (.cell a t)).run P w = .ok v w := by
      rw [hg2, hF _ _ hv]
      have := hl w hs
      simpa [asAddr, go_sem] using this
    rw [e, Sem.run_bind, e2]
    simp only [Result.andThen]
    rw [ih]; simp
theorem run_resultsC (fn : Func) (P : Program) (w : World) (tmps : Array Value) (F : Fr) (L : List Asn) (hs : Sat (hp w) L) (rs : List ResultVar) (vs : List Value) (hr : fn.results = rs.toArray)
    (hF : ∀ t v, get F t = some v → tmps.getD t undef = v) (h : ResL P F L rs vs) : (results fn tmps).run P w = .ok (tupV vs) w := by
  unfold results
  rw [hr]
  have h1 := run_mapM_res P w tmps F L hs hF (fun | .tmp t => Pure.pure (tmps.getD t undef) | .cell a t => do loadVar t (← asAddr (tmps.getD a undef))) (fun _ => rfl) (fun _ _ => rfl) h []
  rw [Sem.run_bind]
  have e : (Array.mapM (m := Sem) (fun | .tmp t => Pure.pure (tmps.getD t undef) | .cell a t => do loadVar t (← asAddr (tmps.getD a undef))) rs.toArray).run P w = .ok vs.toArray w := by
    rw [List.mapM_toArray]
    simp only [Functor.map, List.mapM]
    rw [Sem.run_bind', h1]
    rfl
  refine (congrArg (fun r => Result.andThen r _) e).trans ?_
  simp only [Result.andThen]
  have hl := h.len
  match vs, hl with
  | [], _ => rfl
  | [v], _ => rfl
  | v :: u :: r, _ => rfl
section
variable {P : Program} {L : List Asn}
theorem ld_agg {t n b o : Nat} [hs : Agg P t n] {cs : List Value} (hn : cs.length = n) (hc : CellsIn L ⟨b, o, none⟩ cs) : ∀ w, Sat (hp w) L → (loadVar t ⟨b, o, none⟩).run P w = .ok (.agg cs.toArray) w := fun w hw => by
  have h1 := Agg.run (w := w) hs.agg
  have h3 : (sizeOf t).run P w = .ok n w := run_sizeOf_of hs.size
  have h2 := run_loadCells_list (P := P) (w := w) ⟨b, o, none⟩ cs (fun j v hj => by
    have h := hc _ hw j v hj
    rw [cell?_eq]
    have : (⟨b, o, none⟩ : Addr).add j = ⟨b, o + j, none⟩ := by unfold Addr.add; split <;> simp_all
    rw [this]; exact h)
  rw [hn] at h2
  unfold loadCells at h2
  simp [loadVar, h1, h2, h3, loadCells, go_sem]
end
section rules
variable {c : Cx} {F : Fr} {L M : List Asn} {k : List Item}
theorem J.retC {x : Code} {vs : List Value} (hk : kind x = 9) (hv : ResL c.P F L c.res vs) (hq : c.Q (tupV vs) L) : J c F L (.code x :: k) := by
  intro a w hF hs fn hf hr cs
  cases x <;> simp only [kind, reduceCtorEq, Nat.reduceEqDiff, Nat.succ_ne_self] at hk
  case region id ops d => cases d <;> simp [kind] at hk
  case ret =>
    exact ⟨_, L, w, _, hq, hs, rfl, .one step_ret, rfl, rfl, by simp [Frame.at, hF.nodef], rfl, fn, hf, run_resultsC fn c.P w a.tmps F L hs c.res vs hr hF.val hv⟩
end rules
theorem CallS.fact {P : Program} {f : FuncId} {args : Array Value} {L : List Asn} {Q : Value → List Asn → Prop} {p : Prop} (hp : ∀ h, Sat h L → p) (h : p → CallS P f args L Q) : CallS P f args L Q := fun w hs => h (hp _ hs) w hs
theorem SlIn.nil {α : Type} {E : Enc α} {L : List Asn} {a : Option Addr} : SlIn E L a [] := ⟨fun _ _ => .inl rfl⟩
end Go.KK

/- The text K24. -/
/-!
  A slice argument of structs whose fields are ints, strings and bools, as a list.
-/
set_option linter.unusedVariables false
set_option linter.unusedSimpArgs false
namespace Go.KK
open Go.ChangeShapes Go.WideShapes Go.ChangeAt Go.RowKit
def isV : Nat → Value → Prop
  | 0, v => ∃ z : Int, v = .int .i64 z
  | 1, v => ∃ s : ByteArray, v = .string s
  | _, v => ∃ b : Bool, v = .bool b
def kindB (P : Program) (t : TypeId) : Option Nat :=
  match P.underlying t with
  | some (.int .i64) => some 0
  | some .string => some 1
  | some .bool => some 2
  | _ => none
section
open Go.Deep
variable {H : Type} {enc : TypeId × Value → H} {P : Program} {w : World} {base : Nat} {spare : Nat → Bool} {held : Bool}
end
end Go.KK

/- The text K25. -/
/-!
  A string's bytes; an array within a block.
-/
set_option linter.unusedVariables false
set_option linter.unusedSimpArgs false
namespace Go.KK
section
variable {P : Program} {F : Fr} {L : List Asn} {dst : Option Tmp} {ty : TypeId} {pos : String} {aft : Array Edge} {gd : Option (Nat × Bool)}
end

/-- A block that begins with an array. -/
def arr {α : Type} (E : Enc α) (xs : List α) (r : List Value) (T : TypeId) : Obj := .cells (E.all xs ++ r).toArray T (0, 0)
section
variable {α : Type} {E : Enc α} {L : List Asn} {b : Nat} {xs : List α} {r : List Value} {T : TypeId}
theorem CellIn.arr [hb : BlkIn L b (KK.arr E xs r T)] {m i k : Nat} {x : α} {v : Value} (hm : E.m = m) (hx : xs[i]? = some x) (hv : (E.enc x)[k]? = some v) : CellIn L ⟨b, i * m + k, none⟩ v := fun h hs => by
  subst hm
  have h1 := hb.out h hs
  have hk : k < E.m := by rw [← E.len x]; exact (List.getElem?_eq_some_iff.1 hv).1
  have h2 := E.all_get xs i k x hx hk
  rw [hv] at h2
  have h3 := (List.getElem?_eq_some_iff.1 h2).1
  simp only [cellH, h1, KK.arr, Option.isSome_none, Bool.false_eq_true, if_false, List.getElem?_toArray]
  rw [List.getElem?_append_left h3, h2]
theorem CellsIn.arr [hb : BlkIn L b (KK.arr E xs r T)] {m i : Nat} {x : α} (hm : E.m = m) (hx : xs[i]? = some x) : CellsIn L ⟨b, i * m, none⟩ (E.enc x) := fun h hs j v hv => CellIn.arr (E := E) hm hx hv h hs
theorem all_set (E : Enc α) : ∀ {xs : List α} {i : Nat} {x : α}, i < xs.length → E.all (xs.set i x) = splice (E.all xs) (i * E.m) (E.enc x)
  | [], i, x, h => by simp at h
  | y :: ys, 0, x, h => by
    unfold splice
    simp only [List.set_cons_zero, Enc.all, List.flatMap_cons, Nat.zero_mul, List.take_zero, List.nil_append, Nat.zero_add]
    rw [E.len x, ← E.len y, List.drop_left]
  | y :: ys, i + 1, x, h => by
    have ih := all_set E (xs := ys) (i := i) (x := x) (by simpa using h)
    have e1 : E.all (y :: ys) = E.enc y ++ E.all ys := by simp [Enc.all]
    have e2 : E.all ((y :: ys).set (i + 1) x) = E.enc y ++ E.all (ys.set i x) := by simp [Enc.all]
    rw [e2, ih, e1]
    unfold splice
    have h1 : (i + 1) * E.m = E.m + i * E.m := by rw [Nat.add_mul]; omega
    rw [h1, List.take_append, List.drop_append, E.len y]
    have t1 : (E.enc y).take (E.m + i * E.m) = E.enc y := List.take_of_length_le (by rw [E.len]; omega)
    have t2 : (E.enc y).drop (E.m + i * E.m + (E.enc x).length) = [] := List.drop_of_length_le (by rw [E.len]; omega)
    rw [t1, t2, Nat.add_sub_cancel_left, show E.m + i * E.m + (E.enc x).length - E.m = i * E.m + (E.enc x).length by omega]
    simp
end
section
variable {P : Program} {F : Fr} {L : List Asn} {dst : Option Tmp} {ty : TypeId} {pos : String} {aft : Array Edge} {gd : Option (Nat × Bool)}
end
/-- As 'J.cut', for what follows behind so many items. -/
theorem J.cut1 {c : Cx} {F : Fr} {L : List Asn} {k : List Item} {ι : Type} {x : Item} (good : ι → Prop) (I : ι → Fr) (F0 : Fr) (H : ι → List Asn) (hF0 : Picks F F0) (h1 : ∀ i, good i → J c (I i ++ F0) (H i) k)
    (h2 : (∀ i, good i → J c (I i ++ F0) (H i) k) → J c F L (x :: k)) : J c F L (x :: k) := h2 h1
theorem J.cut2 {c : Cx} {F : Fr} {L : List Asn} {k : List Item} {ι : Type} {x y : Item} (good : ι → Prop) (I : ι → Fr) (F0 : Fr) (H : ι → List Asn) (hF0 : Picks F F0) (h1 : ∀ i, good i → J c (I i ++ F0) (H i) k)
    (h2 : (∀ i, good i → J c (I i ++ F0) (H i) k) → J c F L (x :: y :: k)) : J c F L (x :: y :: k) := h2 h1
end Go.KK
