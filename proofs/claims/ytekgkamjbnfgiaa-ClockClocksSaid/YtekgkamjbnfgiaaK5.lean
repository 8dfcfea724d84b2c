/-
  A part of the proof of the claim that this folder bears.
  This text: K5.
-/
import Derived.Test.YtekgkamjbnfgiaaK4
set_option linter.unusedVariables false
set_option linter.unusedSimpArgs false
namespace Go.KK

def JQ (c : Cx) (ops : List Oper) (F : Fr) (L : List Asn) (rest : List Oper) (k : List Item) : Prop :=
  ∀ a w0, OkF c.n F a → wpQuiet c.P ops.toArray (fun w => Sat (hp w) L ∧ env w = env w0) (fun a => ∀ w, Sat (hp w) L ∧ env w = env w0 → Qk c k w0 .normal a w) rest a

section rules
variable {c : Cx} {F : Fr} {L : List Asn} {k : List Item} {ops rest : List Oper} {o : Oper}

theorem J.quiet {x : Code} (hk : kind x = 2) (hm : c.P.follows .mixedOrders = true) (hB : Region.lexB .any (cOps x).toArray = true)
    (h : JQ c (cOps x) F L (cOps x) k) : J c F L (.code x :: k) := fun a w hF hs => by
  cases x <;> simp only [kind, reduceCtorEq, Nat.reduceEqDiff, Nat.succ_ne_self] at hk
  case region id ops d =>
    cases d <;> simp only [kind, reduceCtorEq, Nat.reduceEqDiff] at hk
    intro fn hf hr cs
    have h1 : (Code.region id ops true).wp c.P (Qk c k w) a w := by
      refine wp_region_quiet (C := fun v => Sat (hp v) L ∧ env v = env w) hm (by simpa [cOps] using hB) ⟨hs, rfl⟩ ?_
      have := h a w hF
      simp only [cOps, Array.toArray_toList] at this
      exact this
    obtain ⟨e, a', w', hq, harr⟩ := h1 (bse c.f) k cs
    cases e <;> simp only [Qk] at hq
    obtain ⟨v, L', w'', fr, q, s, hv, st, e', l⟩ := hq.2 fn hf hr cs
    exact ⟨v, L', w'', fr, q, s, hv.trans hq.1, Steps.trans harr st, e', l⟩

theorem JQ.nil (h : J c F L k) : JQ c ops F L [] k := fun a w0 hF => wpQuiet_nil fun w hs => ⟨hs.2, h a w hF hs.1⟩
theorem JQ.pur {d : Nat} {v : Value} (hw : wantF ops F o = some true) (hd : o.dst = some d) (hn : Nat.blt d c.n = true) (hp : Pur c.P F L o v)
    (h : JQ c ops ((d, v) :: F) L rest k) : JQ c ops F L (o :: rest) k := fun a w0 hF => by
  unfold wpQuiet
  rw [if_pos (wantF_ok hF hw)]
  refine ⟨v, fun w hs => ?_, ?_⟩
  · unfold Oper.quietAt
    rw [hp a.eval w hF.ev hs.1]
    exact ⟨rfl, rfl⟩
  · rw [hd]; exact h _ w0 (hF.put hn)
theorem JQ.no {d : Nat} (hw : wantF ops F o = some false) (hd : o.dst = some d) (hn : Nat.blt d c.n = true) (h : JQ c ops ((d, undef) :: F) L rest k) : JQ c ops F L (o :: rest) k := fun a w0 hF => by
  unfold wpQuiet
  rw [if_neg (by rw [wantF_ok hF hw]; simp), hd]
  exact h _ w0 (hF.put hn)
theorem JQ.call {f d : Nat} [hb : Body c.P f] {ty : TypeId} {pos : String} {aft : Array Edge} {gd : Option (Nat × Bool)} {xs : List Operand} {vs : List Value} {tys : Array TypeId} {v0 : Value}
    (hw : wantF ops F ⟨some d, .call ⟨.value (.func f), xs.toArray, tys⟩, ty, pos, aft, gd⟩ = some true) (hn : Nat.blt d c.n = true) (hv : evL F xs = some vs) (hc : CallS c.P f vs.toArray L (fun v M => v = v0 ∧ ∀ h, Sat h M → Sat h L))
    (h : JQ c ops ((d, v0) :: F) L rest k) : JQ c ops F L (⟨some d, .call ⟨.value (.func f), xs.toArray, tys⟩, ty, pos, aft, gd⟩ :: rest) k := fun a w0 hF => by
  unfold wpQuiet
  rw [if_pos (wantF_ok hF hw)]
  refine ⟨v0, fun w hs => ?_, h _ w0 (hF.put hn)⟩
  have h0 := hb.out
  unfold hasBody at h0
  split at h0
  · rename_i fn hf
    simp only [Bool.and_eq_true, Bool.not_eq_true'] at h0
    obtain ⟨h1, h2⟩ := h0
    have hargs : (xs.toArray.map a.eval) = vs.toArray := by
      have := evL_ok hF.ev hv
      simp [this]
    have hfe : a.eval (.func f) = .func (.func f) #[] #[] := rfl
    have hr : (execOp a.eval ⟨some d, .call ⟨.value (.func f), xs.toArray, tys⟩, ty, pos, aft, gd⟩).run c.P w = .ok (.enter f vs.toArray) w := by
      simp [execOp, resolve, hargs, hfe, Deferred.ofValue, invoke, callFunc, hf, go_sem]
      rw [if_neg (by simpa using h2), if_neg (by cases hbb : fn.body <;> simp_all)]
    unfold Oper.quietAt
    rw [hr]
    refine ⟨rfl, (hc w hs.1).mono fun e w' ⟨v, M, ⟨hq, hM⟩, he, hs', hv⟩ => ?_⟩
    subst hq
    exact ⟨he, hM _ hs', hv.trans hs.2⟩
  · cases h0

def lst (n : Nat) : List Nat → Array Bool
  | [] => Array.replicate n false
  | i :: is => (lst n is).setIfInBounds i true

end rules
end Go.KK
