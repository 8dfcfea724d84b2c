/-
  A part of the proof of the claim that this folder bears.
  This text: K4.
-/
import Derived.Test.YtekgkamjbnfgiaaK3
set_option linter.unusedVariables false
set_option linter.unusedSimpArgs false
namespace Go.KK

/-- An operation with an effect: it yields a value, and then the heap meets a list of assertions, of which Q speaks. -/
def Eff (P : Program) (F : Fr) (L : List Asn) (o : Oper) (Q : Value → List Asn → Prop) : Prop :=
  ∀ (a : Act) (w : World), a.defers = [] → (∀ x u, ev F x = some u → a.eval x = u) → Sat (hp w) L →
    ∀ (next : Act → World → Prop) (Qx : Exit → Act → World → Prop), (∀ v w' L', Q v L' → Sat (hp w') L' → env w' = env w → next (a.put o.dst v) w') → o.wp P a w next Qx

section
variable {P : Program} {F : Fr} {L : List Asn} {o : Oper}

theorem Pur.eff {v : Value} (h : Pur P F L o v) : Eff P F L o (fun u M => u = v ∧ M = L) := fun a w hd ha hs next Qx hn => by
  unfold Oper.wp
  rw [h a.eval w ha hs]
  exact hn v w L ⟨rfl, rfl⟩ hs rfl

theorem Eff.of_run {Q : Value → List Asn → Prop} (h : ∀ (ρ : Operand → Value) (w : World), (∀ x u, ev F x = some u → ρ x = u) → Sat (hp w) L → ∃ v w' M, (execOp ρ o).run P w = .ok (.value v) w' ∧ Q v M ∧ env w' = env w ∧ Sat (hp w') M) : Eff P F L o Q :=
  fun a w hd ha hs next Qx hn => by
    obtain ⟨v, w', M, hr, hq, hv, hs'⟩ := h a.eval w ha hs
    unfold Oper.wp
    rw [hr]
    exact hn v w' M hq hs' hv
theorem Eff.of_skip {Q : Value → List Asn → Prop} (h : ∀ (ρ : Operand → Value) (w : World), (∀ x u, ev F x = some u → ρ x = u) → Sat (hp w) L → ∃ w' M, (execOp ρ o).run P w = .ok .skip w' ∧ Q undef M ∧ env w' = env w ∧ Sat (hp w') M) : Eff P F L o Q :=
  fun a w hd ha hs next Qx hn => by
    obtain ⟨w', M, hr, hq, hv, hs'⟩ := h a.eval w ha hs
    unfold Oper.wp
    rw [hr]
    exact hn undef w' M hq hs' hv
end

def evL (F : Fr) : List Operand → Option (List Value)
  | [] => some []
  | x :: xs => match ev F x with
    | some v => match evL F xs with
      | some vs => some (v :: vs)
      | none => none
    | none => none
theorem evL_ok {F : Fr} {ρ : Operand → Value} (hρ : ∀ x u, ev F x = some u → ρ x = u) : ∀ {xs : List Operand} {vs : List Value}, evL F xs = some vs → xs.map ρ = vs
  | [], vs, h => by simp [evL] at h; subst h; rfl
  | x :: xs, vs, h => by
    simp only [evL] at h
    split at h
    · rename_i v hv
      split at h
      · rename_i us hu
        cases h
        simp [hρ _ _ hv, evL_ok hρ hu]
      · cases h
    · cases h

/-- The callee has a body, and is not the one function that the model serves by itself. -/
def hasBody (P : Program) (f : Nat) : Bool :=
  match P.funcs[f]? with
  | some fn => fn.body.isSome && !(fn.name == "runtime.NumGoroutine")
  | none => false
class Body (P : Program) (f : Nat) : Prop where out : hasBody P f = true

section
variable {P : Program} {F : Fr} {L : List Asn} {dst : Option Tmp} {ty : TypeId} {pos : String} {aft : Array Edge} {gd : Option (Nat × Bool)}

theorem Eff.call {f : Nat} [hb : Body P f] {xs : List Operand} {vs : List Value} {tys : Array TypeId} {Q : Value → List Asn → Prop}
    (hv : evL F xs = some vs) (h : CallS P f vs.toArray L Q) :
    Eff P F L ⟨dst, .call ⟨.value (.func f), xs.toArray, tys⟩, ty, pos, aft, gd⟩ Q := fun a w hd ha hs next Qx hn => by
  have h0 := hb.out
  unfold hasBody at h0
  split at h0
  · rename_i fn hf
    simp only [Bool.and_eq_true, Bool.not_eq_true'] at h0
    obtain ⟨h1, h2⟩ := h0
    have hbn : fn.body.isNone = false := by cases hbb : fn.body <;> simp_all
    have hargs : (xs.toArray.map a.eval) = vs.toArray := by
      have := evL_ok ha hv
      simp [this]
    have hfe : a.eval (.func f) = .func (.func f) #[] #[] := rfl
    have hr : (execOp a.eval ⟨dst, .call ⟨.value (.func f), xs.toArray, tys⟩, ty, pos, aft, gd⟩).run P w = .ok (.enter f vs.toArray) w := by
      simp [execOp, resolve, hargs, hfe, Deferred.ofValue, invoke, callFunc, hf, hbn, go_sem]
      rw [if_neg (by simpa using h2), if_neg (by cases hbb : fn.body <;> simp_all)]
    unfold Oper.wp
    rw [hr, Oper.upon_enter]
    refine (h w hs).mono fun e w' ⟨v, M, hq, he, hs', hv⟩ => ?_
    subst he
    exact hn v w' M hq hs' hv
  · cases h0
end

/-! Regions in the order of their text. -/
def wantF (ops : List Oper) (F : Fr) (o : Oper) : Option Bool :=
  match o.guard with
  | none => some true
  | some (j, want) => match ops[j]? with
    | some oj => match oj.dst with
      | some t => match get F t with
        | some (.bool b) => some (b == want)
        | some (.tuple _) => some false
        | _ => none
      | none => none
    | none => none

theorem wantF_ok {ops : List Oper} {F : Fr} {o : Oper} {b : Bool} {n : Nat} {a : Act} (hF : OkF n F a) (h : wantF ops F o = some b) : Region.wanted o (yielded ops.toArray a.tmps) = b := by
  unfold wantF at h
  unfold Region.wanted
  cases hg : o.guard with
  | none => simp [hg] at h; simp [h]
  | some p =>
    obtain ⟨j, want⟩ := p
    simp only [hg] at h ⊢
    split at h
    · rename_i oj hj
      split at h
      · rename_i t ht
        split at h
        · rename_i b' hb'
          have h1 := hF.val _ _ hb'
          have h2 : a.tmps[t]? = some (.bool b') := by
            rw [Array.getD_eq_getD_getElem?] at h1
            cases h3 : a.tmps[t]? with
            | none => simp [h3, undef] at h1
            | some u => simp [h3] at h1; rw [h1]
          simp only [Option.some.injEq] at h
          subst h
          cases b' <;> cases want <;> simp [yielded, hj, ht, h2] <;> rfl
        · rename_i vs hb'
          have h1 := hF.val _ _ hb'
          simp only [Option.some.injEq] at h
          subst h
          have h2 : yielded ops.toArray a.tmps j = none := by
            rw [Array.getD_eq_getD_getElem?] at h1
            cases h3 : a.tmps[t]? with
            | none => simp [yielded, hj, ht, h3]
            | some u => simp [h3] at h1; subst h1; simp [yielded, hj, ht, h3]
          rw [h2]; rfl
        · cases h
      · cases h
    · cases h

def Qk (c : Cx) (k : List Item) (w0 : World) : Exit → Act → World → Prop
  | .normal, a, w => env w = env w0 ∧ Go1 c.P c.f c.res c.Q a w k
  | _, _, _ => False

/-- The operations 'rest' are still to do, of the region 'ops'. -/
def JO (c : Cx) (ops : List Oper) (F : Fr) (L : List Asn) (rest : List Oper) (k : List Item) : Prop :=
  ∀ a w, OkF c.n F a → Sat (hp w) L → wpList c.P ops.toArray (Qk c k w) rest a w

section rules
variable {c : Cx} {F : Fr} {L : List Asn} {k : List Item} {ops rest : List Oper} {o : Oper}

theorem J.region {x : Code} (hk : kind x = 1) (h : JO c (cOps x) F L (cOps x) k) : J c F L (.code x :: k) := fun a w hF hs => by
  cases x <;> simp only [kind, reduceCtorEq, Nat.reduceEqDiff, Nat.succ_ne_self] at hk
  case region id ops d =>
    cases d <;> simp only [kind, reduceCtorEq, Nat.reduceEqDiff] at hk
    intro fn hf hr cs
    have h1 : (Code.region id ops false).wp c.P (Qk c k w) a w := by
      refine wp_region_list ?_
      have := h a w hF hs
      simpa [cOps] using this
    obtain ⟨e, a', w', hq, harr⟩ := h1 (bse c.f) k cs
    cases e <;> simp only [Qk] at hq
    obtain ⟨v, L', w'', fr, q, s, hv, st, e', l⟩ := hq.2 fn hf hr cs
    exact ⟨v, L', w'', fr, q, s, hv.trans hq.1, Steps.trans harr st, e', l⟩

theorem Qk.to {c : Cx} {k : List Item} {w w' : World} (h : env w' = env w) : Qk c k w' = Qk c k w := by
  funext e a u
  cases e <;> simp only [Qk, h]

theorem JO.nil (h : J c F L k) : JO c ops F L [] k := fun a w hF hs => wpList_nil ⟨rfl, h a w hF hs⟩

theorem JO.eff {d : Nat} {Q : Value → List Asn → Prop} (hw : wantF ops F o = some true) (hd : o.dst = some d) (hn : Nat.blt d c.n = true) (he : Eff c.P F L o Q)
    (h : ∀ v M, Q v M → JO c ops ((d, v) :: F) M rest k) : JO c ops F L (o :: rest) k := fun a w hF hs => by
  unfold wpList
  rw [if_pos (wantF_ok hF hw)]
  refine .inl (he a w hF.nodef hF.ev hs _ _ fun v w' M hq hs' hv => ?_)
  rw [hd, ← Qk.to hv]
  exact h v M hq _ _ (hF.put hn) hs'
theorem JO.effN {Q : Value → List Asn → Prop} (hw : wantF ops F o = some true) (hd : o.dst = none) (he : Eff c.P F L o Q)
    (h : ∀ v M, Q v M → JO c ops F M rest k) : JO c ops F L (o :: rest) k := fun a w hF hs => by
  unfold wpList
  rw [if_pos (wantF_ok hF hw)]
  refine .inl (he a w hF.nodef hF.ev hs _ _ fun v w' M hq hs' hv => ?_)
  rw [hd, ← Qk.to hv]
  exact h v M hq _ _ hF.none hs'
theorem JO.pur {d : Nat} {v : Value} (hw : wantF ops F o = some true) (hd : o.dst = some d) (hn : Nat.blt d c.n = true) (hp : Pur c.P F L o v)
    (h : JO c ops ((d, v) :: F) L rest k) : JO c ops F L (o :: rest) k :=
  JO.eff hw hd hn hp.eff (fun _ _ ⟨e1, e2⟩ => by subst e1; subst e2; exact h)
theorem JO.no {d : Nat} (hw : wantF ops F o = some false) (hd : o.dst = some d) (hn : Nat.blt d c.n = true) (h : JO c ops ((d, undef) :: F) L rest k) : JO c ops F L (o :: rest) k := fun a w hF hs => by
  unfold wpList
  rw [if_neg (by rw [wantF_ok hF hw]; simp), hd]
  exact h _ _ (hF.put hn) hs
theorem JO.noN (hw : wantF ops F o = some false) (hd : o.dst = none) (h : JO c ops F L rest k) : JO c ops F L (o :: rest) k := fun a w hF hs => by
  unfold wpList
  rw [if_neg (by rw [wantF_ok hF hw]; simp), hd]
  exact h _ _ hF.none hs
theorem JO.imp {M : List Asn} (hL : ∀ h, Sat h L → Sat h M) (h : JO c ops F M rest k) : JO c ops F L rest k := fun a w hF' hs => h a w hF' (hL _ hs)
theorem JO.perm {M : List Asn} (hL : L.Perm M) (h : JO c ops F M rest k) : JO c ops F L rest k := fun a w hF' hs => h a w hF' (hs.perm hL)
theorem JO.picks {G : Fr} (hF : Picks F G) (h : JO c ops G L rest k) : JO c ops F L rest k := fun a w hF' hs => h a w (hF'.picks hF) hs
theorem JO.fact {p : Prop} (hp : ∀ h, Sat h L → p) (h : p → JO c ops F L rest k) : JO c ops F L rest k := fun a w hF' hs => h (hp _ hs) a w hF' hs
theorem JO.ex {α : Type} {A : α → Asn} (h : ∀ x, JO c ops F (A x :: L) rest k) : JO c ops F ((fun h => ∃ x, A x h) :: L) rest k := fun a w hF' hs =>
  let ⟨x, hs⟩ := hs.ex; h x a w hF' hs
theorem JO.prop {p : Prop} {A : Asn} (h : p → JO c ops F (A :: L) rest k) : JO c ops F ((fun h => p ∧ A h) :: L) rest k := fun a w hF' hs =>
  let ⟨x, hs⟩ := hs.pure; h x a w hF' hs
theorem JO.star {M : List Asn} (h : JO c ops F (M ++ L) rest k) : JO c ops F (star M :: L) rest k := fun a w hF' hs => h a w hF' (Sat.star.1 hs)
end rules
end Go.KK
