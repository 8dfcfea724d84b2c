/-
  A part of the proof of the claim that this folder bears.
  This text: K18.
-/
import Derived.Test.YtekgkamjbnfgiaaK16
import Derived.Laws.StructEq
set_option linter.unusedVariables false
set_option linter.unusedSimpArgs false
set_option linter.unusedSectionVars false
namespace Go.KK

/-! Strings. -/
theorem str_beq (a b : ByteArray) : (a == b) = decide (a = b) := by
  obtain ⟨⟨x⟩⟩ := a
  obtain ⟨⟨y⟩⟩ := b
  show ((⟨x⟩ : Array UInt8) == ⟨y⟩) = _
  by_cases h : x = y
  · subst h; simp
  · simp [h]
theorem str_eq (a b : ByteArray) : (a.toList == b.toList) = decide (a = b) := by rw [← beq_toListBytes, str_beq]
section
variable {P : Program} {F : Fr} {L : List Asn} {dst : Option Tmp} {ty : TypeId} {pos : String} {aft : Array Edge} {gd : Option (Nat × Bool)}

class StT' (P : Program) (t : TypeId) : Prop where out : P.underlying t = some .string
theorem Pur.eqlT {t t' : Nat} [ha : StT' P t] {x y : Operand} {a b : ByteArray} (hx : ev F x = some (.string a)) (hy : ev F y = some (.string b)) :
    Pur P F L ⟨dst, .binOp .eql t x y t', ty, pos, aft, gd⟩ (.bool (decide (a = b))) := fun ρ w hρ _ => by
  simp [execOp, hρ _ _ hx, hρ _ _ hy, eqGuard, binOp, Op.stringOp, str_eq, go_sem]
theorem Pur.neqT {t t' : Nat} [ha : StT' P t] {x y : Operand} {a b : ByteArray} (hx : ev F x = some (.string a)) (hy : ev F y = some (.string b)) :
    Pur P F L ⟨dst, .binOp .neq t x y t', ty, pos, aft, gd⟩ (.bool (decide (a ≠ b))) := fun ρ w hρ _ => by
  simp [execOp, hρ _ _ hx, hρ _ _ hy, eqGuard, binOp, Op.stringOp, str_eq, go_sem]
theorem Pur.lenT {x : Operand} {t : Nat} [ha : StT' P t] {s : ByteArray} (hx : ev F x = some (.string s)) :
    Pur P F L ⟨dst, .call ⟨.builtin .len, #[x], #[t]⟩, ty, pos, aft, gd⟩ (.int .i64 (s.size : Int)) := fun ρ w hρ _ => by
  have hu := ha.out
  simp [execOp, resolve, invoke, builtin, Builtin.len_, hρ _ _ hx, hu, underlying, goInt, go_sem]

/-! Functions as values. -/
theorem Pur.makeFunc {f : Fn} {xs ys : List Operand} {us vs : List Value} (hx : evL F xs = some us) (hy : evL F ys = some vs) :
    Pur P F L ⟨dst, .makeFunc f xs.toArray ys.toArray, ty, pos, aft, gd⟩ (.func f us.toArray vs.toArray) := fun ρ w hρ _ => by
  have h1 := evL_ok hρ hx
  have h2 := evL_ok hρ hy
  simp [execOp, Instr.makeFunc, h1, h2, go_sem]
theorem Eff.callV {f : Nat} [hb : Body P f] {g : Operand} {xs : List Operand} {vs cs : List Value} {tys : Array TypeId} {Q : Value → List Asn → Prop}
    (hg : ev F g = some (.func (.func f) #[] cs.toArray)) (hv : evL F xs = some vs) (h : CallS P f (vs ++ cs).toArray L Q) :
    Eff P F L ⟨dst, .call ⟨.value g, xs.toArray, tys⟩, ty, pos, aft, gd⟩ Q := fun a w hd ha hs next Qx hn => by
  have h0 := hb.out
  unfold hasBody at h0
  split at h0
  · rename_i fn hf
    simp only [Bool.and_eq_true, Bool.not_eq_true'] at h0
    obtain ⟨h1, h2⟩ := h0
    have hbn : fn.body.isNone = false := by cases hbb : fn.body <;> simp_all
    have hargs : (xs.toArray.map a.eval) = vs.toArray := by
      have := evL_ok ha hv
      simp [this]
    have hfe : a.eval g = .func (.func f) #[] cs.toArray := ha _ _ hg
    have hr : (execOp a.eval ⟨dst, .call ⟨.value g, xs.toArray, tys⟩, ty, pos, aft, gd⟩).run P w = .ok (.enter f (vs ++ cs).toArray) w := by
      unfold execOp
      simp only [resolve, hargs, hfe, Deferred.ofValue, Sem.run_bind, Sem.run_pure, Result.andThen_ok]
      simp [invoke, callFunc, hf, hbn, go_sem]
      rw [if_neg (by simpa using h2), if_neg (by cases hbb : fn.body <;> simp_all)]
    unfold Oper.wp
    rw [hr, Oper.upon_enter]
    refine (h w hs).mono fun e w' ⟨v, M, hq, he, hs', hv⟩ => ?_
    subst he
    exact hn v w' M hq hs' hv
  · cases h0
end

/-! Maps. -/
class MapT (P : Program) (t : TypeId) (k e : outParam TypeId) : Prop where out : P.underlying t = some (.map k e)

/-- How keys of a kind look. -/
structure KeyE (κ : Type) where
  v : κ → Value
  kind : TypeDesc
  now : ∀ a b : κ, ∀ d : Decidable (a = b), Instr.sameNow kind (v a) (v b) = some (@decide (a = b) d)
  scalar : ∀ (P : Program) (w : World) (t : TypeId) (a : κ) (em : Bool), P.underlying t = some kind → (Instr.checkKey em 10000 t (v a)).run P w = .ok () w
  bits : ∀ a b : κ, a = b → Instr.sameBits 10000 (v a) (v b) = true

def strK : KeyE ByteArray := ⟨.string, .string, fun a b d => by
  show some (a == b) = _
  rw [str_beq]
  congr 1
  cases d with
  | isTrue h => simp [h]
  | isFalse h => simp [h], fun P w t a em h => by
    have hu := run_underlying (P := P) h w
    rw [show (10000 : Nat) = 9999 + 1 from rfl, Instr.checkKey.eq_def]
    simp [Sem.run_bind, hu, go_sem], fun a b h => by
    subst h
    rw [show (10000 : Nat) = 9999 + 1 from rfl, Instr.sameBits.eq_def]; simp [str_beq]⟩
def intK : KeyE Int := ⟨.int .i64, .int .i64, fun a b d => by
  show (if IntKind.i64 = IntKind.i64 then some (a == b) else none) = _
  rw [if_pos rfl]
  congr 1
  cases d with
  | isTrue h => subst h; simp
  | isFalse h => simp [h], fun P w t a em h => by
    have hu := run_underlying (P := P) h w
    rw [show (10000 : Nat) = 9999 + 1 from rfl, Instr.checkKey.eq_def]
    simp [Sem.run_bind, hu, go_sem], fun a b h => by
    subst h
    rw [show (10000 : Nat) = 9999 + 1 from rfl, Instr.sameBits.eq_def]; simp⟩

section
variable {κ : Type} [DecidableEq κ]
def alook (m : List (κ × Value)) (k : κ) : Option Value := (m.find? (fun p => decide (k = p.1))).map (·.2)
def aset (m : List (κ × Value)) (k : κ) (v : Value) : List (κ × Value) := if (alook m k).isSome then m.map (fun p => if k = p.1 then (p.1, v) else p) else m ++ [(k, v)]

def ents (K : KeyE κ) (es : Array MapEntry) (m : List (κ × Value)) : Prop := es.toList.map (fun e => (e.key, e.val)) = m.map (fun p => (K.v p.1, p.2)) ∧ (m.map (·.1)).Nodup
@[irreducible] def mp (K : KeyE κ) (b : Nat) (m : List (κ × Value)) : Asn := fun h => ∃ es clock, h b = some (.map es clock) ∧ ents K es m
theorem mp_iff {K : KeyE κ} {b : Nat} {m : List (κ × Value)} {h : Hp} : mp K b m h ↔ ∃ es clock, h b = some (.map es clock) ∧ ents K es m := by unfold mp; exact Iff.rfl

theorem alook_aset (m : List (κ × Value)) (k k' : κ) (v : Value) : alook (aset m k v) k' = if k' = k then some v else alook m k' := by
  unfold aset
  by_cases h : (alook m k).isSome
  · rw [if_pos h]
    unfold alook at *
    induction m with
    | nil => simp at h
    | cons p m ih =>
      by_cases hp : k = p.1
      · subst hp
        by_cases hk : k' = p.1
        · subst hk; simp
        · simp only [List.map_cons, if_true, List.find?_cons, hk, decide_false, Bool.false_eq_true, if_false]
          by_cases hs : (m.find? (fun q => decide (p.1 = q.1))).isSome
          · have := ih (by simpa using hs)
            simpa [hk] using this
          · congr 1
            have hn : ∀ q ∈ m, ¬ p.1 = q.1 := by
              intro q hq e
              apply hs
              rw [List.find?_isSome]
              exact ⟨q, hq, by simp [e]⟩
            have : m.map (fun q => if p.1 = q.1 then (q.1, v) else q) = m := by
              rw [show m = m.map id by simp]
              simp only [List.map_map]
              apply List.map_congr_left
              intro q hq
              simp [hn q hq]
            rw [this]
      · have hs : (Option.map (·.2) (m.find? (fun q => decide (k = q.1)))).isSome := by simpa [hp] using h
        have := ih hs
        by_cases hk : k' = p.1
        · have : ¬ k' = k := fun e => hp (e ▸ hk)
          subst hk; simp [hp, this]
        · simpa [hp, hk] using this
  · rw [if_neg h]
    unfold alook at *
    rw [List.find?_append]
    by_cases hk : k' = k
    · subst hk
      have : m.find? (fun p => decide (k' = p.1)) = none := by
        cases hf : m.find? (fun p => decide (k' = p.1)) with
        | none => rfl
        | some q => rw [hf] at h; simp at h
      simp [this]
    · cases hf : m.find? (fun p => decide (k' = p.1)) <;> simp [hk]

theorem findNow_ents {K : KeyE κ} : ∀ {m : List (κ × Value)} {es : List MapEntry} (k : κ) (i : Nat), es.map (fun e => (e.key, e.val)) = m.map (fun p => (K.v p.1, p.2)) →
    Instr.findNow K.kind (K.v k) es i = some ((m.findIdx? (fun p => decide (k = p.1))).bind fun j => (m[j]?).map fun p => (i + j, p.2))
  | [], [], k, i, _ => by simp [Instr.findNow]
  | [], _ :: _, _, _, h => by simp at h
  | _ :: _, [], _, _, h => by simp at h
  | p :: m, e :: es, k, i, h => by
    simp only [List.map_cons, List.cons.injEq, Prod.mk.injEq] at h
    obtain ⟨⟨h1, h2⟩, h3⟩ := h
    unfold Instr.findNow
    rw [h1, K.now k p.1 inferInstance]
    by_cases hk : k = p.1
    · subst hk; simp [h2, List.findIdx?_cons]
    · simp only [hk, decide_false]
      rw [findNow_ents k (i + 1) h3]
      simp only [List.findIdx?_cons, hk, decide_false, Bool.false_eq_true, if_false, Option.some.injEq]
      cases hf : m.findIdx? (fun p => decide (k = p.1)) with
      | none => rfl
      | some j => simp; cases m[j]? <;> simp; omega
end

section
variable {κ : Type} [DecidableEq κ] {P : Program} {F : Fr} {L : List Asn} {dst : Option Tmp} {ty : TypeId} {pos : String} {aft : Array Edge} {gd : Option (Nat × Bool)}

theorem Eff.makeMap (K : KeyE κ) {t : Nat} :
    Eff P F L ⟨dst, .makeMap t none, ty, pos, aft, gd⟩ (fun u M => ∃ b, u = .map (some b) ∧ M = mp K b [] :: L) := Eff.of_run fun ρ w hρ hs => by
  refine ⟨.map (some w.heap.size), { w with heap := w.heap.push (.map #[] 0) }, _, rfl, ⟨w.heap.size, rfl, rfl⟩, rfl, ?_⟩
  rw [hp_push]
  refine (Sat.new (o := .map #[] 0) (hp_size w) hs).cons_imp (fun h hh => ?_) (fun _ h => h)
  rw [blk_iff] at hh
  exact mp_iff.2 ⟨_, _, hh, rfl, by simp⟩

end
class MpIn {κ : outParam Type} (K : outParam (KeyE κ)) (L : List Asn) (b : Nat) (m : outParam (List (κ × Value))) (f : outParam (Asn → List Asn)) : Prop where out : ∀ B, Rep (mp K b m) B L (f B)
instance MpIn.head {κ : Type} {K : KeyE κ} {L : List Asn} {b : Nat} {m : List (κ × Value)} : MpIn K (mp K b m :: L) b m (fun B => B :: L) := ⟨fun _ => .head⟩
instance (priority := 900) MpIn.tail {κ : Type} {K : KeyE κ} {A : Asn} {L : List Asn} {b : Nat} {m : List (κ × Value)} {f : Asn → List Asn} [h : MpIn K L b m f] : MpIn K (A :: L) b m (fun B => A :: f B) := ⟨fun B => .tail (h.out B)⟩
end Go.KK
