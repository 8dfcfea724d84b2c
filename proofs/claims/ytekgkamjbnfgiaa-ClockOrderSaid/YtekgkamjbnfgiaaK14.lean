/-
  A part of the proof of the claim that this folder bears.
  This text: K14.
-/
import Derived.Test.YtekgkamjbnfgiaaK13
set_option linter.unusedVariables false
set_option linter.unusedSimpArgs false
namespace Go.KK

theorem sl_nil_new {α : Type} {E : Enc α} {L : List Asn} {h : Hp} (hs : Sat h L) : Sat h (sl E none 0 [] :: L) :=
  ⟨fun _ => none, h, fun _ => .inl rfl, (fun _ _ hx => (by cases hx)), Hp.le_refl _, sl_iff.2 (.inl ⟨rfl, rfl, rfl⟩), hs⟩

theorem CallS.ent {P : Program} {f : FuncId} {args : Array Value} {L : List Asn} {Q : Value → List Asn → Prop}
    (h : CallS P f args L (fun v M => ∃ v' M', Q v' M' ∧ v = v' ∧ ∀ h, Sat h M → Sat h M')) : CallS P f args L Q :=
  h.mono fun v M ⟨v', M', q, e, hm⟩ => ⟨M', by rw [e]; exact q, hm⟩

theorem SlH.le {α : Type} {E : Enc α} {L : List Asn} {a : Option Addr} {cap : Nat} {xs : List α} {f : Asn → List Asn} [hh : SlH E L a cap xs f] {h : Hp} (hs : Sat h L) : xs.length ≤ cap := by
  rcases hh.own hs with ⟨_, _, h0⟩ | ⟨_, _, _, h1, _⟩
  · subst h0; simp
  · exact h1
theorem SlH.nil {α : Type} {E : Enc α} {L : List Asn} {a : Option Addr} {cap : Nat} {xs : List α} {f : Asn → List Asn} [hh : SlH E L a cap xs f] {h : Hp} (hs : Sat h L) : a = none → xs = [] ∧ cap = 0 := by
  intro ha
  rcases hh.own hs with ⟨_, h1, h0⟩ | ⟨b, _, h1, _⟩
  · exact ⟨h0, h1⟩
  · rw [ha] at h1; cases h1

section
variable {P : Program} {F : Fr} {L : List Asn} {dst : Option Tmp} {ty : TypeId} {pos : String} {aft : Array Edge} {gd : Option (Nat × Bool)}

/-- How two elements of a type are held against each other. -/
class EqE {α : Type} [DecidableEq α] (P : Program) (t : TypeId) (E : outParam (Enc α)) : Prop where
  guard : P.eqGuardType P.depth t = false
  run : ∀ (x y : α) (w : World), (Op.equal t (.agg (E.enc x).toArray) (.agg (E.enc y).toArray)).run P w = .ok (decide (x = y)) w

theorem run_eqGuard_agg {t : TypeId} {op : BinOp} {x y : Operand} {cs ds : Array Value} (h : P.eqGuardType P.depth t = false) (w : World) : (eqGuard op t x y (.agg cs) (.agg ds)).run P w = .ok () w := by
  unfold eqGuard
  cases op <;> simp [h]

theorem Pur.eqlE {α : Type} [DecidableEq α] {E : Enc α} {t t' : Nat} [he : EqE P t E] {x y : Operand} {a b : α} (hx : ev F x = some (.agg (E.enc a).toArray)) (hy : ev F y = some (.agg (E.enc b).toArray)) :
    Pur P F L ⟨dst, .binOp .eql t x y t', ty, pos, aft, gd⟩ (.bool (decide (a = b))) := fun ρ w hρ _ => by
  have h1 := run_eqGuard_agg (P := P) (op := .eql) (x := x) (y := y) (cs := (E.enc a).toArray) (ds := (E.enc b).toArray) he.guard w
  have h2 := he.run a b w
  unfold execOp
  simp only [Sem.run_bind, hρ _ _ hx, hρ _ _ hy, h1, Result.andThen_ok]
  simp [binOp, h2]
theorem Pur.neqE {α : Type} [DecidableEq α] {E : Enc α} {t t' : Nat} [he : EqE P t E] {x y : Operand} {a b : α} (hx : ev F x = some (.agg (E.enc a).toArray)) (hy : ev F y = some (.agg (E.enc b).toArray)) :
    Pur P F L ⟨dst, .binOp .neq t x y t', ty, pos, aft, gd⟩ (.bool (decide (a ≠ b))) := fun ρ w hρ _ => by
  have h1 := run_eqGuard_agg (P := P) (op := .neq) (x := x) (y := y) (cs := (E.enc a).toArray) (ds := (E.enc b).toArray) he.guard w
  have h2 := he.run a b w
  unfold execOp
  simp only [Sem.run_bind, hρ _ _ hx, hρ _ _ hy, h1, Result.andThen_ok]
  simp [binOp, h2]
end

theorem JQ.callE {c : Cx} {F : Fr} {L : List Asn} {k : List Item} {ops rest : List Oper} {f d : Nat} [hb : Body c.P f] {ty : TypeId} {pos : String} {aft : Array Edge} {gd : Option (Nat × Bool)} {xs : List Operand} {vs : List Value} {tys : Array TypeId} {v0 : Value}
    (hw : wantF ops F ⟨some d, .call ⟨.value (.func f), xs.toArray, tys⟩, ty, pos, aft, gd⟩ = some true) (hn : Nat.blt d c.n = true) (hv : evL F xs = some vs) (hc : CallS c.P f vs.toArray L (fun v M => v = v0 ∧ M = L))
    (h : JQ c ops ((d, v0) :: F) L rest k) : JQ c ops F L (⟨some d, .call ⟨.value (.func f), xs.toArray, tys⟩, ty, pos, aft, gd⟩ :: rest) k :=
  JQ.call hw hn hv (hc.mono fun v M ⟨e1, e2⟩ => ⟨M, ⟨e1, fun h hs => e2 ▸ hs⟩, fun _ h => h⟩) h
theorem take_succ_eq {α : Type} {xs ys : List α} {i : Nat} (h : xs.take i = ys.take i) (h1 : i < xs.length) (h2 : i < ys.length) (e : xs[i] = ys[i]) : xs.take (i + 1) = ys.take (i + 1) := by
  rw [List.take_succ_eq_append_getElem h1, List.take_succ_eq_append_getElem h2, h, e]
theorem take_all_eq {α : Type} {xs ys : List α} {i : Nat} (h : xs.take i = ys.take i) (h1 : xs.length ≤ i) (h2 : ys.length ≤ i) : xs = ys := by
  rwa [List.take_of_length_le h1, List.take_of_length_le h2] at h

/-- A law on one assertion ahead, used wherever it stands. -/
theorem CallS.atM {P : Program} {fn : FuncId} {args : Array Value} {L : List Asn} {A B : Asn} {X : Value} {f : Asn → List Asn} (h : ∀ R, CallS P fn args (A :: R) (fun v M => v = X ∧ M = B :: R)) (hr : ∀ B, Rep A B L (f B)) :
    CallS P fn args L (fun v M => v = X ∧ M = f B) :=
  (CallS.at (Q := fun v B' => v = X ∧ B' = B) (fun R => (h R).mono fun v M ⟨e1, e2⟩ => ⟨M, ⟨B, ⟨e1, rfl⟩, e2⟩, fun _ h => h⟩) hr).mono fun v M ⟨B', ⟨e1, e2⟩, e3⟩ => ⟨M, ⟨e1, by rw [e3, e2]⟩, fun _ h => h⟩
theorem CallS.atR {P : Program} {fn : FuncId} {args : Array Value} {L : List Asn} {A : Asn} {X : Value} {f : Asn → List Asn} (h : ∀ R, CallS P fn args (A :: R) (fun v M => v = X ∧ M = A :: R)) (hr : ∀ B, Rep A B L (f B)) :
    CallS P fn args L (fun v M => v = X ∧ M = L) :=
  (CallS.atM h hr).mono fun v M ⟨e1, e2⟩ => ⟨M, ⟨e1, by rw [e2, ← Rep.same (hr A)]⟩, fun _ h => h⟩
theorem CallS.atN {P : Program} {fn : FuncId} {args : Array Value} {L : List Asn} {A : Asn} {Q : Value → Asn → Prop} {f : Asn → List Asn} (h : ∀ R, CallS P fn args (A :: R) (fun v M => ∃ N, Q v N ∧ M = N :: A :: R)) (hr : ∀ B, Rep A B L (f B)) :
    CallS P fn args L (fun v M => ∃ N, Q v N ∧ M = N :: L) := fun w hs => by
  obtain ⟨R, p1, p2⟩ := (hr A).perm
  refine (h R w (hs.perm p1)).mono fun e w' ⟨v, M, ⟨N, q, hm⟩, he, hs', hv⟩ => ⟨v, N :: L, ⟨N, q, rfl⟩, he, ?_, hv⟩
  subst hm
  exact hs'.perm (p1.symm.cons N)
end Go.KK
