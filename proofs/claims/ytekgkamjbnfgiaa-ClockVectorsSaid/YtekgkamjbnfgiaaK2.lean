/-
  A part of the proof of the claim that this folder bears.
  This text: K2.
-/
import Derived.Test.YtekgkamjbnfgiaaK1
set_option linter.unusedVariables false
set_option linter.unusedSimpArgs false
namespace Go.KK

/-- What no operation of these programs turns: the streams, the system. -/
def env (w : World) := (w.os, w.tape, w.output)

/-- What a call comes to: it returns a value, and the heap meets a list of assertions, which 'Q' says of both. -/
def CallS (P : Program) (f : FuncId) (args : Array Value) (L : List Asn) (Q : Value → List Asn → Prop) : Prop :=
  ∀ w, Sat (hp w) L → Calls P f args w (fun (e : Ending) (w' : World) => ∃ v L', Q v L' ∧ e = .returned v ∧ Sat (hp w') L' ∧ env w' = env w)

theorem CallS.mono {P : Program} {f : FuncId} {args : Array Value} {L : List Asn} {Q Q' : Value → List Asn → Prop} (h : CallS P f args L Q)
    (hq : ∀ v M, Q v M → ∃ M', Q' v M' ∧ ∀ h, Sat h M → Sat h M') : CallS P f args L Q' := fun w hs =>
  (h w hs).mono fun e w' ⟨v, M, q, he, s, hv⟩ => let ⟨M', q', hm⟩ := hq v M q; ⟨v, M', q', he, hm _ s, hv⟩

theorem CallS.pre {P : Program} {f : FuncId} {args : Array Value} {L L' : List Asn} {Q : Value → List Asn → Prop} (h : CallS P f args L Q)
    (hl : ∀ h, Sat h L' → Sat h L) : CallS P f args L' Q := fun w hs => h w (hl _ hs)

def bse (f : FuncId) : Frame := { (default : Frame) with fn := f, kind := .normal }

/-- From here the function's call comes to what Q says. -/
def Go1 (P : Program) (f : FuncId) (res : List ResultVar) (Q : Value → List Asn → Prop) (a : Act) (w : World) (k : List Item) : Prop :=
  ∀ fn, P.funcs[f]? = some fn → fn.results = res.toArray → ∀ cs, ∃ (v : Value) (L' : List Asn) (w' : World) (fr : Frame), Q v L' ∧ Sat (hp w') L' ∧ env w' = env w ∧ Steps P (lone ((bse f).at a k) cs w) (lone fr cs w') ∧ fr.fn = f ∧ fr.leaving P w' (.returned v)

theorem Go1.of_steps {P : Program} {f : FuncId} {res : List ResultVar} {Q : Value → List Asn → Prop} {a a' : Act} {w w' : World} {k k' : List Item}
    (h : ∀ cs, Steps P (lone ((bse f).at a k) cs w) (lone ((bse f).at a' k') cs w')) (hg : Go1 P f res Q a' w' k') (he : env w' = env w := by rfl) : Go1 P f res Q a w k := fun fn h1 h2 cs =>
  let ⟨v, L', w', fr, q, s, hv, st, e, l⟩ := hg fn h1 h2 cs
  ⟨v, L', w', fr, q, s, hv.trans he, (h cs).trans st, e, l⟩

/-- The judgement: whatever the frame that meets F, whatever the heap that meets L. -/
structure Cx where
  P : Program
  f : FuncId
  n : Nat
  res : List ResultVar
  Q : Value → List Asn → Prop

def J (c : Cx) (F : Fr) (L : List Asn) (k : List Item) : Prop := ∀ a w, OkF c.n F a → Sat (hp w) L → Go1 c.P c.f c.res c.Q a w k

def argF : Nat → List Value → Fr
  | _, [] => []
  | i, v :: vs => (i, v) :: argF (i + 1) vs

theorem get_argF : ∀ (vs : List Value) (i t : Nat) (v : Value), get (argF i vs) t = some v → i ≤ t ∧ vs[t - i]? = some v
  | [], _, _, _, h => by simp [argF, get] at h
  | u :: vs, i, t, v, h => by
    simp only [argF, get] at h
    cases hb : Nat.beq i t with
    | true =>
      rw [hb] at h
      have := Nat.eq_of_beq_eq_true hb
      subst this
      simp at h
      simp [h]
    | false =>
      rw [hb] at h
      have h' := get_argF vs (i + 1) t v h
      refine ⟨by omega, ?_⟩
      have : t - i = (t - (i + 1)) + 1 := by omega
      rw [this]; simpa using h'.2

theorem CallS.enter {P : Program} {f : FuncId} {fn : Func} {vs : List Value} {L : List Asn} {Q : Value → List Asn → Prop} {n : Nat} {b : Option Code} {res : List ResultVar}
    (hf : P.funcs[f]? = some fn) (hn : fn.ntmps = n) (hr : fn.results = res.toArray) (hb : fn.body = b) (hz : b.isSome = true) (hlen : Nat.ble vs.length n = true)
    (h : J ⟨P, f, n, res, Q⟩ (argF 0 vs) L [.code (b.getD .skip)]) : CallS P f vs.toArray L Q := by
  cases b with
  | none => simp at hz
  | some c =>
  intro w hs cs
  have hlen' : vs.length ≤ n := Nat.le_of_ble_eq_true hlen
  have henter : Frame.enter P f vs.toArray .normal = (bse f).at { tmps := vs.toArray ++ Array.replicate (fn.ntmps - vs.toArray.size) undef, defers := [] } [.code c] := by
    simp [Frame.enter, Frame.at, hf, hb, bse]
  obtain ⟨v, L', w', fr, q, s, hv, st, e, l⟩ := h { tmps := vs.toArray ++ Array.replicate (fn.ntmps - vs.toArray.size) undef, defers := [] } w
    ⟨by simp [hn]; omega, rfl, fun t v hv => by
      have h1 := get_argF vs 0 t v hv
      simp at h1
      obtain ⟨h2, h3⟩ := List.getElem?_eq_some_iff.1 h1
      simp [Array.getD_eq_getD_getElem?, Array.getElem?_append, h2, h3]⟩ hs fn hf hr cs
  exact ⟨.returned v, w', fr, ⟨v, L', q, rfl, s, hv⟩, by rw [henter]; exact st, e, l⟩

section rules
variable {c : Cx} {F : Fr} {L : List Asn} {k : List Item}

theorem J.weaken {G : Fr} {M : List Asn} (hF : Picks F G) (hL : ∀ h, Sat h L → Sat h M) (h : J c G M k) : J c F L k := fun a w hF' hs => h a w (hF'.picks hF) (hL _ hs)
theorem J.picks {G : Fr} (hF : Picks F G) (h : J c G L k) : J c F L k := fun a w hF' hs => h a w (hF'.picks hF) hs
theorem J.perm {M : List Asn} (hL : L.Perm M) (h : J c F M k) : J c F L k := fun a w hF' hs => h a w hF' (hs.perm hL)
theorem J.imp {M : List Asn} (hL : ∀ h, Sat h L → Sat h M) (h : J c F M k) : J c F L k := fun a w hF' hs => h a w hF' (hL _ hs)
theorem J.ex {α : Type} {A : α → Asn} (h : ∀ x, J c F (A x :: L) k) : J c F ((fun h => ∃ x, A x h) :: L) k := fun a w hF' hs =>
  let ⟨x, hs⟩ := hs.ex; h x a w hF' hs
theorem J.prop {p : Prop} {A : Asn} (h : p → J c F (A :: L) k) : J c F ((fun h => p ∧ A h) :: L) k := fun a w hF' hs =>
  let ⟨x, hs⟩ := hs.pure; h x a w hF' hs
theorem J.star {M : List Asn} (h : J c F (M ++ L) k) : J c F (star M :: L) k := fun a w hF' hs => h a w hF' (Sat.star.1 hs)
theorem J.fact {p : Prop} (hp : ∀ h, Sat h L → p) (h : p → J c F L k) : J c F L k := fun a w hF' hs => h (hp _ hs) a w hF' hs

/-! Code. Its parts are named by what takes them out. -/
def cL : Code → Code | .seq a _ => a | .cond _ a _ => a | .block _ b => b | .loop b => b | .scope b => b | c => c
def cR : Code → Code | .seq _ b => b | .cond _ _ b => b | c => c
def cOps : Code → List Oper | .region _ ops _ => ops.toList | _ => []
def cId : Code → Nat | .block i _ => i | .exit i => i | .region i _ _ => i | _ => 0
def cOp : Code → Operand | .cond x _ _ => x | _ => .const undef
def kind : Code → Nat
  | .skip => 0 | .region _ _ false => 1 | .region _ _ true => 2 | .seq .. => 3 | .cond .. => 4 | .block .. => 5 | .loop .. => 6
  | .exit .. => 7 | .scope .. => 8 | .ret => 9 | _ => 10

theorem J.seq {x : Code} (hk : kind x = 3) (h : J c F L (.code (cL x) :: .code (cR x) :: k)) : J c F L (.code x :: k) := fun a w hF hs =>
  Go1.of_steps (fun cs => by
    cases x <;> simp only [kind, reduceCtorEq, Nat.reduceEqDiff, Nat.succ_ne_self] at hk
    case seq => exact .one step_seq
    case region id ops d => cases d <;> simp [kind] at hk) (h a w hF hs)
theorem J.skip {x : Code} (hk : kind x = 0) (h : J c F L k) : J c F L (.code x :: k) := fun a w hF hs =>
  Go1.of_steps (fun cs => by
    cases x <;> simp only [kind, reduceCtorEq, Nat.reduceEqDiff, Nat.succ_ne_self] at hk
    case skip => exact .one step_skip
    case region id ops d => cases d <;> simp [kind] at hk) (h a w hF hs)
theorem J.block {x : Code} (hk : kind x = 5) (h : J c F L (.code (cL x) :: .inBlock (cId x) :: k)) : J c F L (.code x :: k) := fun a w hF hs =>
  Go1.of_steps (fun cs => by
    cases x <;> simp only [kind, reduceCtorEq, Nat.reduceEqDiff, Nat.succ_ne_self] at hk
    case block => exact .one step_block
    case region id ops d => cases d <;> simp [kind] at hk) (h a w hF hs)
theorem J.inBlock {id : Nat} (h : J c F L k) : J c F L (.inBlock id :: k) := fun a w hF hs => Go1.of_steps (fun _ => .one step_inBlock) (h a w hF hs)
theorem J.exit {x : Code} {k' : List Item} (hk : kind x = 7) (he : exitTo (cId x) k = some k') (h : J c F L k') : J c F L (.code x :: k) := fun a w hF hs =>
  Go1.of_steps (fun cs => by
    cases x <;> simp only [kind, reduceCtorEq, Nat.reduceEqDiff, Nat.succ_ne_self] at hk
    case exit => exact .one (step_exit he)
    case region id ops d => cases d <;> simp [kind] at hk) (h a w hF hs)
theorem J.condT {x : Code} (hk : kind x = 4) (hv : ev F (cOp x) = some (.bool true)) (h : J c F L (.code (cL x) :: k)) : J c F L (.code x :: k) := fun a w hF hs => by
  have hv' := hF.ev _ _ hv
  refine Go1.of_steps (fun cs => ?_) (h a w hF hs)
  cases x <;> simp only [kind, reduceCtorEq, Nat.reduceEqDiff, Nat.succ_ne_self] at hk
  case cond => exact .one (step_cond (t := true) hv')
  case region id ops d => cases d <;> simp [kind] at hk
theorem J.condF {x : Code} (hk : kind x = 4) (hv : ev F (cOp x) = some (.bool false)) (h : J c F L (.code (cR x) :: k)) : J c F L (.code x :: k) := fun a w hF hs => by
  have hv' := hF.ev _ _ hv
  refine Go1.of_steps (fun cs => ?_) (h a w hF hs)
  cases x <;> simp only [kind, reduceCtorEq, Nat.reduceEqDiff, Nat.succ_ne_self] at hk
  case cond => exact .one (step_cond (t := false) hv')
  case region id ops d => cases d <;> simp [kind] at hk
theorem J.cond {x : Code} {b : Bool} (hk : kind x = 4) (hv : ev F (cOp x) = some (.bool b)) (ht : b = true → J c F L (.code (cL x) :: k)) (hf : b = false → J c F L (.code (cR x) :: k)) : J c F L (.code x :: k) := by
  cases b
  · exact J.condF hk hv (hf rfl)
  · exact J.condT hk hv (ht rfl)
theorem J.condP {x : Code} {p : Prop} [Decidable p] (hk : kind x = 4) (hv : ev F (cOp x) = some (.bool (decide p))) (ht : p → J c F L (.code (cL x) :: k)) (hf : ¬ p → J c F L (.code (cR x) :: k)) : J c F L (.code x :: k) :=
  J.cond hk hv (fun h => ht (of_decide_eq_true h)) (fun h => hf (of_decide_eq_false h))

/-- A loop: a state 'i' gives the frame and the heap at its head; a measure. -/
theorem J.loop {x : Code} {ι : Type} (good : ι → Prop) (I : ι → Fr) (H : ι → List Asn) (μ : ι → Nat) (i0 : ι) (hk : kind x = 6)
    (hF : Picks F (I i0)) (hL : ∀ h, Sat h L → Sat h (H i0)) (hg : good i0)
    (body : ∀ i, good i → (∀ j, good j → μ j < μ i → J c (I j) (H j) (.inLoop (cL x) :: k)) → J c (I i) (H i) (.code (cL x) :: .inLoop (cL x) :: k)) :
    J c F L (.code x :: k) := by
  have key : ∀ m i, μ i = m → good i → J c (I i) (H i) (.code (cL x) :: .inLoop (cL x) :: k) := by
    intro m
    induction m using Nat.strongRecOn with
    | _ m ih =>
      intro i hm hgi
      refine body i hgi fun j hgj hlt => ?_
      have := ih (μ j) (hm ▸ hlt) j rfl hgj
      exact fun a w hF hs => Go1.of_steps (fun _ => .one step_inLoop) (this a w hF hs)
  refine J.weaken hF hL fun a w hF hs => Go1.of_steps (fun cs => ?_) (key _ i0 rfl hg a w hF hs)
  cases x <;> simp only [kind, reduceCtorEq, Nat.reduceEqDiff, Nat.succ_ne_self] at hk
  case loop => exact .one step_loop
  case region id ops d => cases d <;> simp [kind] at hk


def getA (F : Fr) : List ResultVar → Option (List Value)
  | [] => some []
  | .tmp t :: r => match get F t with
    | some v => match getA F r with
      | some vs => some (v :: vs)
      | none => none
    | none => none
  | .cell .. :: _ => none
def tupV : List Value → Value
  | [v] => v
  | vs => .tuple vs.toArray

theorem run_pure {α : Type} (P : Program) (w : World) (a : α) : (Pure.pure a : Sem α).run P w = .ok a w := rfl

theorem getA_len {F : Fr} : ∀ {rs : List ResultVar} {vs : List Value}, getA F rs = some vs → vs.length = rs.length
  | [], vs, h => by simp [getA] at h; subst h; rfl
  | .tmp t :: r, vs, h => by
    simp only [getA] at h
    split at h
    · split at h
      · rename_i us h2; cases h; simp [getA_len h2]
      · cases h
    · cases h
  | .cell _ _ :: _, vs, h => by simp [getA] at h

theorem run_mapM_tmps (P : Program) (w : World) (tmps : Array Value) (F : Fr) (hF : ∀ t v, get F t = some v → tmps.getD t undef = v) (g : ResultVar → Sem Value)
    (hg : ∀ t, g (.tmp t) = Pure.pure (tmps.getD t undef)) :
    ∀ (rs : List ResultVar) (vs : List Value) (acc : List Value), getA F rs = some vs → (List.mapM.loop g rs acc).run P w = .ok (acc.reverse ++ vs) w
  | [], vs, acc, h => by simp [getA] at h; subst h; simp [List.mapM.loop, run_pure]
  | .tmp t :: r, vs, acc, h => by
    simp only [getA] at h
    split at h
    · rename_i v hv
      split at h
      · rename_i us h2
        cases h
        have := run_mapM_tmps P w tmps F hF g hg r us (v :: acc) h2
        have e : List.mapM.loop g (.tmp t :: r) acc = (do let v ← g (.tmp t); List.mapM.loop g r (v :: acc)) := rfl
        rw [e, hg, hF _ _ hv]
        have e2 : (do let v ← (Pure.pure v : Sem Value); List.mapM.loop g r (v :: acc)) = List.mapM.loop g r (v :: acc) := rfl
        rw [e2, this]
        simp
      · cases h
    · cases h
  | .cell _ _ :: _, vs, acc, h => by simp [getA] at h

theorem run_results (fn : Func) (P : Program) (w : World) (tmps : Array Value) (F : Fr) (rs : List ResultVar) (vs : List Value) (hr : fn.results = rs.toArray)
    (hF : ∀ t v, get F t = some v → tmps.getD t undef = v) (h : getA F rs = some vs) : (results fn tmps).run P w = .ok (tupV vs) w := by
  unfold results
  rw [hr]
  have h1 := run_mapM_tmps P w tmps F hF (fun | .tmp t => Pure.pure (tmps.getD t undef) | .cell a t => do loadVar t (← asAddr (tmps.getD a undef))) (fun _ => rfl) rs vs [] h
  rw [Sem.run_bind]
  have e : (Array.mapM (m := Sem) (fun | .tmp t => Pure.pure (tmps.getD t undef) | .cell a t => do loadVar t (← asAddr (tmps.getD a undef))) rs.toArray).run P w = .ok vs.toArray w := by
    rw [List.mapM_toArray]
    simp only [Functor.map, List.mapM]
    rw [Sem.run_bind', h1]
    rfl
  refine (congrArg (fun r => Result.andThen r _) e).trans ?_
  simp only [Result.andThen]
  have hl := getA_len h
  match vs, hl with
  | [], _ => rfl
  | [v], _ => rfl
  | v :: u :: r, _ => rfl

theorem J.ret {x : Code} {vs : List Value} (hk : kind x = 9) (hv : getA F c.res = some vs) (hq : c.Q (tupV vs) L) : J c F L (.code x :: k) := by
  intro a w hF hs fn hf hr cs
  cases x <;> simp only [kind, reduceCtorEq, Nat.reduceEqDiff, Nat.succ_ne_self] at hk
  case region id ops d => cases d <;> simp [kind] at hk
  case ret =>
    exact ⟨_, L, w, _, hq, hs, rfl, .one step_ret, rfl, rfl, by simp [Frame.at, hF.nodef], rfl, fn, hf, run_results fn c.P w a.tmps F c.res vs hr hF.val hv⟩

/-- The end of a body without a 'return'. -/
theorem J.fin {vs : List Value} (hv : getA F c.res = some vs) (hq : c.Q (tupV vs) L) : J c F L [] := by
  intro a w hF hs fn hf hr cs
  exact ⟨_, L, w, _, hq, hs, rfl, .one step_end, rfl, rfl, by simp [Frame.at, hF.nodef], rfl, fn, hf, run_results fn c.P w a.tmps F c.res vs hr hF.val hv⟩

end rules
end Go.KK
