/-
  A part of the proof of the claim that this folder bears.
  This text: K23.
-/
import Derived.Test.YtekgkamjbnfgiaaK22
import Derived.Scope
/-!
  Scopes, labels, results that lie in memory.
-/
set_option linter.unusedVariables false
set_option linter.unusedSimpArgs false
namespace Go.KK
def isLab : Code → Bool | .label _ => true | _ => false
section rules
variable {c : Cx} {F : Fr} {L M : List Asn} {k : List Item}
theorem J.label {x : Code} (hk : isLab x = true) (h : J c F L k) : J c F L (.code x :: k) := fun a w hF hs =>
  Go1.of_steps (fun cs => by
    cases x <;> simp only [isLab, Bool.false_eq_true, reduceCtorEq] at hk
    case label => exact .one step_label) (h a w hF hs)
theorem J.scope {x : Code} (hk : kind x = 8) (h : J c F L (.code (cL x) :: .inScope (cL x) :: k)) : J c F L (.code x :: k) := fun a w hF hs =>
  Go1.of_steps (fun cs => by
    cases x <;> simp only [kind, reduceCtorEq, Nat.reduceEqDiff, Nat.succ_ne_self] at hk
    case scope => exact .one step_scope
    case region id ops d => cases d <;> simp [kind] at hk) (h a w hF hs)
theorem J.inScope {x : Code} (h : J c F L k) : J c F L (.inScope x :: k) := fun a w hF hs => Go1.of_steps (fun _ => .one step_inScope) (h a w hF hs)
end rules

inductive ResL (P : Program) (F : Fr) (L : List Asn) : List ResultVar → List Value → Prop
  | nil : ResL P F L [] []
  | tmp {t : Nat} {v : Value} {r : List ResultVar} {vs : List Value} : get F t = some v → ResL P F L r vs → ResL P F L (.tmp t :: r) (v :: vs)
  | cell {a t : Nat} {p : Addr} {v : Value} {r : List ResultVar} {vs : List Value} : get F a = some (.pointer (some p)) → (∀ w, Sat (hp w) L → (loadVar t p).run P w = .ok v w) → ResL P F L r vs → ResL P F L (.cell a t :: r) (v :: vs)
theorem ResL.len {P : Program} {F : Fr} {L : List Asn} {rs : List ResultVar} {vs : List Value} (h : ResL P F L rs vs) : vs.length = rs.length := by
  induction h <;> simp_all

theorem run_mapM_res (P : Program) (w : World) (tmps : Array Value) (F : Fr) (L : List Asn) (hs : Sat (hp w) L) (hF : ∀ t v, get F t = some v → tmps.getD t undef = v) (g : ResultVar → Sem Value)
    (hg : ∀ t, g (.tmp t) = Pure.pure (tmps.getD t undef)) (hg2 : ∀ a t, g (.cell a t) = (do loadVar t (← asAddr (tmps.getD a undef)))) {rs : List ResultVar} {vs : List Value} (h : ResL P F L rs vs) :
    ∀ (acc : List Value), (List.mapM.loop g rs acc).run P w = .ok (acc.reverse ++ vs) w := by
  induction h with
  | nil => intro acc; simp [List.mapM.loop, run_pure]
  | @tmp t v r vs hv _ ih =>
    intro acc
    have e : List.mapM.loop g (.tmp t :: r) acc = (do let v ← g (.tmp t); List.mapM.loop g r (v :: acc)) := rfl
    rw [e, Sem.run_bind, hg, hF _ _ hv, run_pure]
    simp only [Result.andThen]
    rw [ih]; simp
  | @cell a t p v r vs hv hl _ ih =>
    intro acc
    have e : List.mapM.loop g (.cell a t :: r) acc = (do let v ← g (.cell a t); List.mapM.loop g r (v :: acc)) := rfl
    have e2 : (g (.cell a t)).run P w = .ok v w := by
      rw [hg2, hF _ _ hv]
      have := hl w hs
      simpa [asAddr, go_sem] using this
    rw [e, Sem.run_bind, e2]
    simp only [Result.andThen]
    rw [ih]; simp
theorem run_resultsC (fn : Func) (P : Program) (w : World) (tmps : Array Value) (F : Fr) (L : List Asn) (hs : Sat (hp w) L) (rs : List ResultVar) (vs : List Value) (hr : fn.results = rs.toArray)
    (hF : ∀ t v, get F t = some v → tmps.getD t undef = v) (h : ResL P F L rs vs) : (results fn tmps).run P w = .ok (tupV vs) w := by
  unfold results
  rw [hr]
  have h1 := run_mapM_res P w tmps F L hs hF (fun | .tmp t => Pure.pure (tmps.getD t undef) | .cell a t => do loadVar t (← asAddr (tmps.getD a undef))) (fun _ => rfl) (fun _ _ => rfl) h []
  rw [Sem.run_bind]
  have e : (Array.mapM (m := Sem) (fun | .tmp t => Pure.pure (tmps.getD t undef) | .cell a t => do loadVar t (← asAddr (tmps.getD a undef))) rs.toArray).run P w = .ok vs.toArray w := by
    rw [List.mapM_toArray]
    simp only [Functor.map, List.mapM]
    rw [Sem.run_bind', h1]
    rfl
  refine (congrArg (fun r => Result.andThen r _) e).trans ?_
  simp only [Result.andThen]
  have hl := h.len
  match vs, hl with
  | [], _ => rfl
  | [v], _ => rfl
  | v :: u :: r, _ => rfl
section
variable {P : Program} {L : List Asn}
theorem ld_agg {t n b o : Nat} [hs : Agg P t n] {cs : List Value} (hn : cs.length = n) (hc : CellsIn L ⟨b, o, none⟩ cs) : ∀ w, Sat (hp w) L → (loadVar t ⟨b, o, none⟩).run P w = .ok (.agg cs.toArray) w := fun w hw => by
  have h1 := Agg.run (w := w) hs.agg
  have h3 : (sizeOf t).run P w = .ok n w := run_sizeOf_of hs.size
  have h2 := run_loadCells_list (P := P) (w := w) ⟨b, o, none⟩ cs (fun j v hj => by
    have h := hc _ hw j v hj
    rw [cell?_eq]
    have : (⟨b, o, none⟩ : Addr).add j = ⟨b, o + j, none⟩ := by unfold Addr.add; split <;> simp_all
    rw [this]; exact h)
  rw [hn] at h2
  unfold loadCells at h2
  simp [loadVar, h1, h2, h3, loadCells, go_sem]
theorem ld_scl {t : Nat} {p : Addr} {v : Value} [hs : Scl P t] (hc : CellIn L p v) : ∀ w, Sat (hp w) L → (loadVar t p).run P w = .ok v w := fun w hw => by
  have h1 := Scl.run (w := w) hs.out
  have h2 : w.cell? p = some v := hc _ hw
  simp [loadVar, h1, h2, go_sem]
end
section rules
variable {c : Cx} {F : Fr} {L M : List Asn} {k : List Item}
theorem J.retC {x : Code} {vs : List Value} (hk : kind x = 9) (hv : ResL c.P F L c.res vs) (hq : c.Q (tupV vs) L) : J c F L (.code x :: k) := by
  intro a w hF hs fn hf hr cs
  cases x <;> simp only [kind, reduceCtorEq, Nat.reduceEqDiff, Nat.succ_ne_self] at hk
  case region id ops d => cases d <;> simp [kind] at hk
  case ret =>
    exact ⟨_, L, w, _, hq, hs, rfl, .one step_ret, rfl, rfl, by simp [Frame.at, hF.nodef], rfl, fn, hf, run_resultsC fn c.P w a.tmps F L hs c.res vs hr hF.val hv⟩
end rules
theorem CallS.fact {P : Program} {f : FuncId} {args : Array Value} {L : List Asn} {Q : Value → List Asn → Prop} {p : Prop} (hp : ∀ h, Sat h L → p) (h : p → CallS P f args L Q) : CallS P f args L Q := fun w hs => h (hp _ hs) w hs
theorem CallS.eqv {P : Program} {f : FuncId} {args : Array Value} {L : List Asn} {v v' : Value} (h : CallS P f args L (fun u M => u = v ∧ M = L)) (e : v = v') : CallS P f args L (fun u M => u = v' ∧ M = L) := e ▸ h
theorem SlIn.nil {α : Type} {E : Enc α} {L : List Asn} {a : Option Addr} : SlIn E L a [] := ⟨fun _ _ => .inl rfl⟩
end Go.KK
