/-
  A part of the proof of the claim that this folder bears.
  This text: K19.
-/
import Derived.Test.YtekgkamjbnfgiaaK18
import Derived.MapKept
set_option linter.unusedVariables false
set_option linter.unusedSimpArgs false
set_option linter.unusedSectionVars false
namespace Go.KK

section
variable {κ : Type} [DecidableEq κ]
theorem find_bind (m : List (κ × Value)) (k : κ) : ((m.findIdx? (fun p => decide (k = p.1))).bind fun j => (m[j]?).map fun p => p.2) = alook m k := by
  unfold alook
  induction m with
  | nil => rfl
  | cons p m ih =>
    by_cases h : k = p.1
    · simp [List.findIdx?_cons, h]
    · simp only [List.findIdx?_cons, List.find?_cons, h, decide_false, Bool.false_eq_true, if_false]
      rw [← ih]
      cases hf : m.findIdx? (fun p => decide (k = p.1)) <;> simp

theorem MpIn.get {K : KeyE κ} {L : List Asn} {b : Nat} {m : List (κ × Value)} {f : Asn → List Asn} [h : MpIn K L b m f] {hh : Hp} (hs : Sat hh L) : ∃ es clock, hh b = some (.map es clock) ∧ ents K es m := by
  obtain ⟨h1, l, a⟩ := Sat.memRep (h.out (mp K b m)) hs
  obtain ⟨es, clock, e1, e2⟩ := mp_iff.1 a
  exact ⟨es, clock, l _ _ e1, e2⟩

variable {P : Program} {F : Fr} {L : List Asn} {dst : Option Tmp} {ty : TypeId} {pos : String} {aft : Array Edge} {gd : Option (Nat × Bool)}

theorem run_findKey {K : KeyE κ} {kt : TypeId} {es : Array MapEntry} {m : List (κ × Value)} (w : World) (hk : P.underlying kt = some K.kind) (he : ents K es m) (k : κ) :
    (Instr.findKey kt (K.v k) es.toList).run P w = .ok ((m.findIdx? (fun p => decide (k = p.1))).bind fun j => (m[j]?).map fun p => (j, p.2)) w := by
  have hu := run_underlying (P := P) hk w
  unfold Instr.findKey
  simp only [Sem.run_bind, hu, Result.andThen_ok, findNow_ents k 0 he.1]
  simp

class ZeV (P : Program) (t : TypeId) (z : outParam Value) : Prop where out : (P.info? t).bind (·.zero) = some z
class KeyIs (P : Program) (t : TypeId) (K : KeyE κ) : Prop where out : P.underlying t = some K.kind

theorem run_lookup {K : KeyE κ} {t kt et : TypeId} {z : Value} (w : World) (ht : P.underlying t = some (.map kt et)) (hk : P.underlying kt = some K.kind) (hz : (P.info? et).bind (·.zero) = some z)
    {b : Nat} {es : Array MapEntry} {clock : Nat} {m : List (κ × Value)} (hb : hp w b = some (.map es clock)) (he : ents K es m) (k : κ) :
    (Instr.lookup t (.map (some b)) (K.v k) false).run P w = .ok ((alook m k).getD z) w := by
  have hu := run_underlying (P := P) ht w
  have hzv : (zeroValue et).run P w = .ok z w := by
    cases hi : P.info? et with
    | none => simp [hi] at hz
    | some i => simp [hi] at hz; simp [zeroValue, typeInfo, hi, hz, go_sem]
  have hg : (getObj b).run P w = .ok (.map es clock) w := by
    have : w.heap[b]? = some (.map es clock) := hb
    exact MapKept.run_getObj_map this
  unfold Instr.lookup
  simp only [Sem.run_bind, hu, Result.andThen_ok, hg, Sem.run_pure, K.scalar P w kt k _ hk, run_findKey w hk he]
  rw [← find_bind]
  cases hf : m.findIdx? (fun p => decide (k = p.1)) with
  | none => simp [hzv]
  | some j =>
    cases hm : m[j]? with
    | none => simp [hm, hzv]
    | some p => simp [hm]

theorem Pur.lookup {t kt et : Nat} [hT : MapT P t kt et] {z : Value} [hz : ZeV P et z] {x y : Operand} {b : Nat} {K : KeyE κ} {m : List (κ × Value)} {f : Asn → List Asn} {k : κ} [hK : KeyIs P kt K]
    (hx : ev F x = some (.map (some b))) (hy : ev F y = some (K.v k)) [hm : MpIn K L b m f] :
    Pur P F L ⟨dst, .lookup t x y false, ty, pos, aft, gd⟩ ((alook m k).getD z) := fun ρ w hρ hs => by
  obtain ⟨es, clock, hb, he⟩ := MpIn.get (b := b) (hh := hp w) hs
  have := run_lookup (P := P) w hT.out hK.out hz.out hb he k
  have hex : execOp ρ ⟨dst, .lookup t x y false, ty, pos, aft, gd⟩ = (do pure (.value (← Instr.lookup t (ρ x) (ρ y) false))) := rfl
  rw [hex, Sem.run_bind, hρ _ _ hx, hρ _ _ hy, this]
  rfl

theorem ents_len {K : KeyE κ} {es : Array MapEntry} {m : List (κ × Value)} (he : ents K es m) : es.size = m.length := by
  have := congrArg List.length he.1
  simpa using this
theorem Pur.lenM {t kt et : Nat} [hT : MapT P t kt et] {x : Operand} {b : Nat} {K : KeyE κ} {m : List (κ × Value)} {f : Asn → List Asn}
    (hx : ev F x = some (.map (some b))) [hm : MpIn K L b m f] :
    Pur P F L ⟨dst, .call ⟨.builtin .len, #[x], #[t]⟩, ty, pos, aft, gd⟩ (.int .i64 (m.length : Int)) := fun ρ w hρ hs => by
  obtain ⟨es, clock, hb, he⟩ := MpIn.get (b := b) (hh := hp w) hs
  have hu := hT.out
  have hg := MapKept.run_getObj_map (P := P) (w := w) (r := b) (es := es) (clock := clock) hb
  simp [execOp, resolve, invoke, builtin, Builtin.len_, hρ _ _ hx, hu, underlying, goInt, hg, ents_len he, go_sem]

theorem find_some {m : List (κ × Value)} {k : κ} {j : Nat} (h : m.findIdx? (fun p => decide (k = p.1)) = some j) : ∃ p, m[j]? = some p ∧ k = p.1 := by
  rw [List.findIdx?_eq_some_iff_getElem] at h
  obtain ⟨hj, h1, _⟩ := h
  exact ⟨m[j], List.getElem?_eq_getElem hj, by simpa using h1⟩

theorem set_map {m : List (κ × Value)} {k : κ} {j : Nat} {v : Value} (hn : (m.map (·.1)).Nodup) (hk : (m[j]?).map (·.1) = some k) :
    m.map (fun p => if k = p.1 then (p.1, v) else p) = m.set j (k, v) := by
  apply List.ext_getElem?
  intro i
  rw [List.getElem?_map]
  by_cases hij : j = i
  · subst hij
    cases hm : m[j]? with
    | none => simp [hm] at hk
    | some p =>
      simp only [hm, Option.map_some, Option.some.injEq] at hk
      rw [List.getElem?_set_self (by exact (List.getElem?_eq_some_iff.1 hm).1)]
      simp [hk]
  · rw [List.getElem?_set_ne hij]
    cases hi : m[i]? with
    | none => rfl
    | some q =>
      have : ¬ k = q.1 := fun e => by
        have h1 : (m.map (·.1))[j]? = some k := by rw [List.getElem?_map]; exact hk
        have h2 : (m.map (·.1))[i]? = some k := by rw [List.getElem?_map, hi, e]; rfl
        have l1 := (List.getElem?_eq_some_iff.1 h1).1
        have l2 := (List.getElem?_eq_some_iff.1 h2).1
        have hne := List.pairwise_iff_getElem.1 hn
        rw [List.getElem?_eq_getElem l1] at h1
        rw [List.getElem?_eq_getElem l2] at h2
        simp only [Option.some.injEq] at h1 h2
        rcases Nat.lt_or_gt_of_ne hij with h | h
        · exact hne j i l1 l2 h (h1.trans h2.symm)
        · exact hne i j l2 l1 h (h2.trans h1.symm)
      simp [this]

theorem ents_push {K : KeyE κ} {es : Array MapEntry} {m : List (κ × Value)} (he : ents K es m) {k : κ} {v : Value} {c : Nat} (hk : alook m k = none) : ents K (es.push ⟨K.v k, v, c⟩) (aset m k v) := by
  have e : aset m k v = m ++ [(k, v)] := by unfold aset; rw [hk]; simp
  rw [e]
  refine ⟨by simp [he.1], ?_⟩
  rw [List.map_append, List.nodup_append]
  refine ⟨he.2, by simp, ?_⟩
  intro a ha b hb
  simp only [List.map_cons, List.map_nil, List.mem_singleton] at hb
  subst hb
  intro e2
  subst e2
  unfold alook at hk
  obtain ⟨p, hp, rfl⟩ := List.mem_map.1 ha
  have : (m.find? (fun q => decide (p.1 = q.1))).isSome := by rw [List.find?_isSome]; exact ⟨p, hp, by simp⟩
  cases hf : m.find? (fun q => decide (p.1 = q.1)) with
  | none => rw [hf] at this; cases this
  | some q => rw [hf] at hk; cases hk
theorem ents_set {K : KeyE κ} {es : Array MapEntry} {m : List (κ × Value)} (he : ents K es m) {k : κ} {v : Value} {j : Nat} (hj : m.findIdx? (fun p => decide (k = p.1)) = some j) :
    ents K (es.modify j fun e => { e with key := K.v k, val := v }) (aset m k v) := by
  obtain ⟨p, hp, hkp⟩ := find_some hj
  have hs : (alook m k).isSome := by rw [← find_bind, hj]; simp [hp]
  have e : aset m k v = m.set j (k, v) := by unfold aset; rw [if_pos hs]; exact set_map he.2 (by rw [hp, hkp]; rfl)
  rw [e]
  refine ⟨?_, ?_⟩
  · apply List.ext_getElem?
    intro i
    have hi := congrArg (fun l => l[i]?) he.1
    simp only [List.getElem?_map, Array.getElem?_toList] at hi
    simp only [List.getElem?_map, Array.getElem?_toList, Array.getElem?_modify]
    by_cases hij : j = i
    · subst hij
      rw [List.getElem?_set_self (List.getElem?_eq_some_iff.1 hp).1]
      rw [hp] at hi
      cases hes : es[j]? with
      | none => rw [hes] at hi; cases hi
      | some x => simp
    · rw [List.getElem?_set_ne hij]; simp only [hij, if_false]; exact hi
  · have : (m.set j (k, v)).map (·.1) = m.map (·.1) := by
      rw [List.map_set]
      apply List.ext_getElem?
      intro i
      by_cases hij : j = i
      · subst hij
        rw [List.getElem?_set_self (by simpa using (List.getElem?_eq_some_iff.1 hp).1), List.getElem?_map, hp, hkp]; rfl
      · rw [List.getElem?_set_ne hij]
    rw [this]; exact he.2

theorem Eff.mapUpdate {t kt et : Nat} [hT : MapT P t kt et] {x y u : Operand} {b : Nat} {K : KeyE κ} {m : List (κ × Value)} {f : Asn → List Asn} {k : κ} {v : Value} [hK : KeyIs P kt K]
    (hx : ev F x = some (.map (some b))) (hy : ev F y = some (K.v k)) (hu : ev F u = some v) [hm : MpIn K L b m f] :
    Eff P F L ⟨dst, .mapUpdate t x y u, ty, pos, aft, gd⟩ (fun r M => r = undef ∧ M = f (mp K b (aset m k v))) := Eff.of_skip fun ρ w hρ hs => by
  obtain ⟨es, clock, hb, he⟩ := MpIn.get (b := b) (hh := hp w) hs
  have hut := run_underlying (P := P) hT.out w
  have hg := MapKept.run_getObj_map (P := P) (w := w) (r := b) (es := es) (clock := clock) hb
  have hex : execOp ρ ⟨dst, .mapUpdate t x y u, ty, pos, aft, gd⟩ = (do Instr.mapUpdate t (ρ x) (ρ y) (ρ u); pure .skip) := rfl
  obtain ⟨es', clock', hrun, hents⟩ : ∃ es' clock', (Instr.mapUpdate t (.map (some b)) (K.v k) v).run P w = .ok () { w with heap := w.heap.setIfInBounds b (.map es' clock') } ∧ ents K es' (aset m k v) := by
    unfold Instr.mapUpdate
    simp only [Sem.run_bind, hut, Result.andThen_ok, hg, K.scalar P w kt k _ hK.out, run_findKey w hK.out he]
    cases hf : m.findIdx? (fun p => decide (k = p.1)) with
    | none =>
      refine ⟨es.push ⟨K.v k, v, clock⟩, clock + 1, ?_, ents_push (c := clock) he (by rw [← find_bind, hf]; rfl)⟩
      exact MapKept.run_setObj_map _ hb
    | some j =>
      obtain ⟨p, hp, hkp⟩ := find_some hf
      refine ⟨_, clock, ?_, ents_set he hf⟩
      have hkey : ((es[j]?).map (·.key)).getD (K.v k) = K.v k := by
        have := congrArg (fun l => l[j]?) he.1
        simp only [List.getElem?_map, Array.getElem?_toList, hp, Option.map_some] at this
        cases hes : es[j]? with
        | none => rfl
        | some e => rw [hes] at this; simp only [Option.map_some, Option.some.injEq, Prod.mk.injEq] at this; simp [this.1, hkp]
      simp only [Option.bind_some, hp, Option.map_some, Instr.keyThatStays, hkey, K.bits k k rfl, if_true, Sem.run_bind, Sem.run_pure, Result.andThen_ok]
      exact MapKept.run_setObj_map _ hb
  refine ⟨{ w with heap := w.heap.setIfInBounds b (.map es' clock') }, f (mp K b (aset m k v)), ?_, ⟨rfl, rfl⟩, ?_, ?_⟩
  · rw [hex, Sem.run_bind, hρ _ _ hx, hρ _ _ hy, hρ _ _ hu, hrun]; rfl
  · rfl
  · refine Sat.frameRep (hm.out _) hs fun h1 hA hl1 => ?_
    obtain ⟨es1, c1, hb1, _⟩ := mp_iff.1 hA
    refine ⟨Hp.upd h1 b (.map es' clock'), mp_iff.2 ⟨es', clock', by simp [Hp.upd], hents⟩, ?_, ?_, ?_⟩
    · intro z o hz
      unfold Hp.upd at hz
      by_cases e : z = b
      · subst e
        simp only [if_true, Option.some.injEq] at hz
        subst hz
        have : z < w.heap.size := (Array.getElem?_eq_some_iff.1 hb).1
        simp [hp, this]
      · simp only [e, if_false] at hz
        have := hl1 _ _ hz
        unfold hp at *
        simp only [Array.getElem?_setIfInBounds]
        rw [if_neg (fun h => e h.symm)]; exact this
    · intro z hz
      unfold Hp.upd at hz
      by_cases e : z = b
      · left; rw [e, hb1]; simp
      · left; simpa [e] using hz
    · intro z o hz hno
      unfold hp at *
      simp only [Array.getElem?_setIfInBounds]
      by_cases e : z = b
      · rw [e, hb1] at hno; cases hno
      · rw [if_neg (fun h => e h.symm)]; exact hz
end
end Go.KK
