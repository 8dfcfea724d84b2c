/-
  A part of the proof of the claim that this folder bears.
-/
import Derived.Test.YtnhippfllgnngaaKB
import Derived.MapKept
import Derived.Scope
import Derived.RangeFuncOwn
import Derived.TacticsIn
import Derived.SizedLaws
import Derived.Laws.Shifts
import Derived.Maps.RangeRun
/- The text K19. -/
set_option linter.unusedVariables false
set_option linter.unusedSimpArgs false
set_option linter.unusedSectionVars false
namespace Go.KK

section
variable {κ : Type} [DecidableEq κ]
theorem find_bind (m : List (κ × Value)) (k : κ) : ((m.findIdx? (fun p => decide (k = p.1))).bind fun j => (m[j]?).map fun p => p.2) = alook m k := by
  unfold alook
  induction m with
  | nil => rfl
  | cons p m ih =>
    by_cases h : k = p.1
    · simp [List.findIdx?_cons, h]
    · simp only [List.findIdx?_cons, List.find?_cons, h, decide_false, Bool.false_eq_true, if_false]
      rw [← ih]
      cases hf : m.findIdx? (fun p => decide (k = p.1)) <;> simp

theorem MpIn.get {K : KeyE κ} {L : List Asn} {b : Nat} {m : List (κ × Value)} {f : Asn → List Asn} [h : MpIn K L b m f] {hh : Hp} (hs : Sat hh L) : ∃ es clock, hh b = some (.map es clock) ∧ ents K es m := by
  obtain ⟨h1, l, a⟩ := Sat.memRep (h.out (mp K b m)) hs
  obtain ⟨es, clock, e1, e2, _⟩ := mp_iff.1 a
  exact ⟨es, clock, l _ _ e1, e2⟩
theorem MpIn.getB {K : KeyE κ} {L : List Asn} {b : Nat} {m : List (κ × Value)} {f : Asn → List Asn} [h : MpIn K L b m f] {hh : Hp} (hs : Sat hh L) : ∃ es clock, hh b = some (.map es clock) ∧ ents K es m ∧ bornOk es clock := by
  obtain ⟨h1, l, a⟩ := Sat.memRep (h.out (mp K b m)) hs
  obtain ⟨es, clock, e1, e2⟩ := mp_iff.1 a
  exact ⟨es, clock, l _ _ e1, e2⟩
theorem bornOk_push {es : Array MapEntry} {c : Nat} {k v : Value} (h : bornOk es c) : bornOk (es.push ⟨k, v, c⟩) (c + 1) := by
  obtain ⟨h1, h2⟩ := h
  refine ⟨?_, fun e he => ?_⟩
  · rw [Array.toList_push, List.map_append, List.nodup_append]
    refine ⟨h1, by simp, fun a ha b hb => ?_⟩
    obtain ⟨e, he, rfl⟩ := List.mem_map.1 ha
    have := h2 e he
    simp at hb; omega
  · rw [Array.toList_push] at he
    rcases List.mem_append.1 he with h | h
    · have := h2 e h; omega
    · simp at h; rw [h]; show c < c + 1; omega
theorem bornOk_modify {es : Array MapEntry} {c j : Nat} {g : MapEntry → MapEntry} (hg : ∀ e, (g e).born = e.born) (h : bornOk es c) : bornOk (es.modify j g) c := by
  obtain ⟨h1, h2⟩ := h
  have e1 : (es.modify j g).toList.map (·.born) = es.toList.map (·.born) := by
    apply List.ext_getElem?
    intro i
    simp only [List.getElem?_map, Array.getElem?_toList, Array.getElem?_modify]
    split
    · cases es[i]? <;> simp [hg]
    · rfl
  refine ⟨by rw [e1]; exact h1, fun e he => ?_⟩
  have : e.born ∈ (es.modify j g).toList.map (·.born) := List.mem_map.2 ⟨e, he, rfl⟩
  rw [e1] at this
  obtain ⟨e', he', hb⟩ := List.mem_map.1 this
  have := h2 e' he'
  have hb2 : e'.born = e.born := hb
  omega

variable {P : Program} {F : Fr} {L : List Asn} {dst : Option Tmp} {ty : TypeId} {pos : String} {aft : Array Edge} {gd : Option (Nat × Bool)}

theorem run_findKey {K : KeyE κ} {kt : TypeId} {es : Array MapEntry} {m : List (κ × Value)} (w : World) (hk : P.underlying kt = some K.kind) (he : ents K es m) (k : κ) :
    (Instr.findKey kt (K.v k) es.toList).run P w = .ok ((m.findIdx? (fun p => decide (k = p.1))).bind fun j => (m[j]?).map fun p => (j, p.2)) w := by
  have hu := run_underlying (P := P) hk w
  unfold Instr.findKey
  simp only [Sem.run_bind, hu, Result.andThen_ok, findNow_ents k 0 he.1]
  simp

class ZeV (P : Program) (t : TypeId) (z : outParam Value) : Prop where out : (P.info? t).bind (·.zero) = some z
class KeyIs (P : Program) (t : TypeId) (K : KeyE κ) : Prop where out : P.underlying t = some K.kind

theorem run_lookup {K : KeyE κ} {t kt et : TypeId} {z : Value} (w : World) (ht : P.underlying t = some (.map kt et)) (hk : P.underlying kt = some K.kind) (hz : (P.info? et).bind (·.zero) = some z)
    {b : Nat} {es : Array MapEntry} {clock : Nat} {m : List (κ × Value)} (hb : hp w b = some (.map es clock)) (he : ents K es m) (k : κ) :
    (Instr.lookup t (.map (some b)) (K.v k) false).run P w = .ok ((alook m k).getD z) w := by
  have hu := run_underlying (P := P) ht w
  have hzv : (zeroValue et).run P w = .ok z w := by
    cases hi : P.info? et with
    | none => simp [hi] at hz
    | some i => simp [hi] at hz; simp [zeroValue, typeInfo, hi, hz, go_sem]
  have hg : (getObj b).run P w = .ok (.map es clock) w := by
    have : w.heap[b]? = some (.map es clock) := hb
    exact MapKept.run_getObj_map this
  unfold Instr.lookup
  simp only [Sem.run_bind, hu, Result.andThen_ok, hg, Sem.run_pure, K.scalar P w kt k _ hk, run_findKey w hk he]
  rw [← find_bind]
  cases hf : m.findIdx? (fun p => decide (k = p.1)) with
  | none => simp [hzv]
  | some j =>
    cases hm : m[j]? with
    | none => simp [hm, hzv]
    | some p => simp [hm]

theorem Pur.lookup {t kt et : Nat} [hT : MapT P t kt et] {z : Value} [hz : ZeV P et z] {x y : Operand} {b : Nat} {K : KeyE κ} {m : List (κ × Value)} {f : Asn → List Asn} {k : κ} [hK : KeyIs P kt K]
    (hx : ev F x = some (.map (some b))) (hy : ev F y = some (K.v k)) [hm : MpIn K L b m f] :
    Pur P F L ⟨dst, .lookup t x y false, ty, pos, aft, gd⟩ ((alook m k).getD z) := fun ρ w hρ hs => by
  obtain ⟨es, clock, hb, he⟩ := MpIn.get (b := b) (hh := hp w) hs
  have := run_lookup (P := P) w hT.out hK.out hz.out hb he k
  have hex : execOp ρ ⟨dst, .lookup t x y false, ty, pos, aft, gd⟩ = (do pure (.value (← Instr.lookup t (ρ x) (ρ y) false))) := rfl
  rw [hex, Sem.run_bind, hρ _ _ hx, hρ _ _ hy, this]
  rfl

theorem ents_len {K : KeyE κ} {es : Array MapEntry} {m : List (κ × Value)} (he : ents K es m) : es.size = m.length := by
  have := congrArg List.length he.1
  simpa using this
theorem Pur.lenM {t kt et : Nat} [hT : MapT P t kt et] {x : Operand} {b : Nat} {K : KeyE κ} {m : List (κ × Value)} {f : Asn → List Asn}
    (hx : ev F x = some (.map (some b))) [hm : MpIn K L b m f] :
    Pur P F L ⟨dst, .call ⟨.builtin .len, #[x], #[t]⟩, ty, pos, aft, gd⟩ (.int .i64 (m.length : Int)) := fun ρ w hρ hs => by
  obtain ⟨es, clock, hb, he⟩ := MpIn.get (b := b) (hh := hp w) hs
  have hu := hT.out
  have hg := MapKept.run_getObj_map (P := P) (w := w) (r := b) (es := es) (clock := clock) hb
  simp [execOp, resolve, invoke, builtin, Builtin.len_, hρ _ _ hx, hu, underlying, goInt, hg, ents_len he, go_sem]

theorem find_some {m : List (κ × Value)} {k : κ} {j : Nat} (h : m.findIdx? (fun p => decide (k = p.1)) = some j) : ∃ p, m[j]? = some p ∧ k = p.1 := by
  rw [List.findIdx?_eq_some_iff_getElem] at h
  obtain ⟨hj, h1, _⟩ := h
  exact ⟨m[j], List.getElem?_eq_getElem hj, by simpa using h1⟩

theorem set_map {m : List (κ × Value)} {k : κ} {j : Nat} {v : Value} (hn : (m.map (·.1)).Nodup) (hk : (m[j]?).map (·.1) = some k) :
    m.map (fun p => if k = p.1 then (p.1, v) else p) = m.set j (k, v) := by
  apply List.ext_getElem?
  intro i
  rw [List.getElem?_map]
  by_cases hij : j = i
  · subst hij
    cases hm : m[j]? with
    | none => simp [hm] at hk
    | some p =>
      simp only [hm, Option.map_some, Option.some.injEq] at hk
      rw [List.getElem?_set_self (by exact (List.getElem?_eq_some_iff.1 hm).1)]
      simp [hk]
  · rw [List.getElem?_set_ne hij]
    cases hi : m[i]? with
    | none => rfl
    | some q =>
      have : ¬ k = q.1 := fun e => by
        have h1 : (m.map (·.1))[j]? = some k := by rw [List.getElem?_map]; exact hk
        have h2 : (m.map (·.1))[i]? = some k := by rw [List.getElem?_map, hi, e]; rfl
        have l1 := (List.getElem?_eq_some_iff.1 h1).1
        have l2 := (List.getElem?_eq_some_iff.1 h2).1
        have hne := List.pairwise_iff_getElem.1 hn
        rw [List.getElem?_eq_getElem l1] at h1
        rw [List.getElem?_eq_getElem l2] at h2
        simp only [Option.some.injEq] at h1 h2
        rcases Nat.lt_or_gt_of_ne hij with h | h
        · exact hne j i l1 l2 h (h1.trans h2.symm)
        · exact hne i j l2 l1 h (h2.trans h1.symm)
      simp [this]

theorem ents_push {K : KeyE κ} {es : Array MapEntry} {m : List (κ × Value)} (he : ents K es m) {k : κ} {v : Value} {c : Nat} (hk : alook m k = none) : ents K (es.push ⟨K.v k, v, c⟩) (aset m k v) := by
  have e : aset m k v = m ++ [(k, v)] := by unfold aset; rw [hk]; simp
  rw [e]
  refine ⟨by simp [he.1], ?_⟩
  rw [List.map_append, List.nodup_append]
  refine ⟨he.2, by simp, ?_⟩
  intro a ha b hb
  simp only [List.map_cons, List.map_nil, List.mem_singleton] at hb
  subst hb
  intro e2
  subst e2
  unfold alook at hk
  obtain ⟨p, hp, rfl⟩ := List.mem_map.1 ha
  have : (m.find? (fun q => decide (p.1 = q.1))).isSome := by rw [List.find?_isSome]; exact ⟨p, hp, by simp⟩
  cases hf : m.find? (fun q => decide (p.1 = q.1)) with
  | none => rw [hf] at this; cases this
  | some q => rw [hf] at hk; cases hk
theorem ents_set {K : KeyE κ} {es : Array MapEntry} {m : List (κ × Value)} (he : ents K es m) {k : κ} {v : Value} {j : Nat} (hj : m.findIdx? (fun p => decide (k = p.1)) = some j) :
    ents K (es.modify j fun e => { e with key := K.v k, val := v }) (aset m k v) := by
  obtain ⟨p, hp, hkp⟩ := find_some hj
  have hs : (alook m k).isSome := by rw [← find_bind, hj]; simp [hp]
  have e : aset m k v = m.set j (k, v) := by unfold aset; rw [if_pos hs]; exact set_map he.2 (by rw [hp, hkp]; rfl)
  rw [e]
  refine ⟨?_, ?_⟩
  · apply List.ext_getElem?
    intro i
    have hi := congrArg (fun l => l[i]?) he.1
    simp only [List.getElem?_map, Array.getElem?_toList] at hi
    simp only [List.getElem?_map, Array.getElem?_toList, Array.getElem?_modify]
    by_cases hij : j = i
    · subst hij
      rw [List.getElem?_set_self (List.getElem?_eq_some_iff.1 hp).1]
      rw [hp] at hi
      cases hes : es[j]? with
      | none => rw [hes] at hi; cases hi
      | some x => simp
    · rw [List.getElem?_set_ne hij]; simp only [hij, if_false]; exact hi
  · have : (m.set j (k, v)).map (·.1) = m.map (·.1) := by
      rw [List.map_set]
      apply List.ext_getElem?
      intro i
      by_cases hij : j = i
      · subst hij
        rw [List.getElem?_set_self (by simpa using (List.getElem?_eq_some_iff.1 hp).1), List.getElem?_map, hp, hkp]; rfl
      · rw [List.getElem?_set_ne hij]
    rw [this]; exact he.2

theorem Eff.mapUpdate {t kt et : Nat} [hT : MapT P t kt et] {x y u : Operand} {b : Nat} {K : KeyE κ} {m : List (κ × Value)} {f : Asn → List Asn} {k : κ} {v : Value} [hK : KeyIs P kt K]
    (hx : ev F x = some (.map (some b))) (hy : ev F y = some (K.v k)) (hu : ev F u = some v) [hm : MpIn K L b m f] :
    Eff P F L ⟨dst, .mapUpdate t x y u, ty, pos, aft, gd⟩ (fun r M => r = undef ∧ M = f (mp K b (aset m k v))) := Eff.of_skip fun ρ w hρ hs => by
  obtain ⟨es, clock, hb, he, hbo⟩ := MpIn.getB (b := b) (hh := hp w) hs
  have hut := run_underlying (P := P) hT.out w
  have hg := MapKept.run_getObj_map (P := P) (w := w) (r := b) (es := es) (clock := clock) hb
  have hex : execOp ρ ⟨dst, .mapUpdate t x y u, ty, pos, aft, gd⟩ = (do Instr.mapUpdate t (ρ x) (ρ y) (ρ u); pure .skip) := rfl
  obtain ⟨es', clock', hrun, hents⟩ : ∃ es' clock', (Instr.mapUpdate t (.map (some b)) (K.v k) v).run P w = .ok () { w with heap := w.heap.setIfInBounds b (.map es' clock') } ∧ ents K es' (aset m k v) ∧ bornOk es' clock' := by
    unfold Instr.mapUpdate
    simp only [Sem.run_bind, hut, Result.andThen_ok, hg, K.scalar P w kt k _ hK.out, run_findKey w hK.out he]
    cases hf : m.findIdx? (fun p => decide (k = p.1)) with
    | none =>
      refine ⟨es.push ⟨K.v k, v, clock⟩, clock + 1, ?_, ents_push (c := clock) he (by rw [← find_bind, hf]; rfl), bornOk_push hbo⟩
      exact MapKept.run_setObj_map _ hb
    | some j =>
      obtain ⟨p, hp, hkp⟩ := find_some hf
      refine ⟨_, clock, ?_, ents_set he hf, bornOk_modify (fun _ => rfl) hbo⟩
      have hkey : ((es[j]?).map (·.key)).getD (K.v k) = K.v k := by
        have := congrArg (fun l => l[j]?) he.1
        simp only [List.getElem?_map, Array.getElem?_toList, hp, Option.map_some] at this
        cases hes : es[j]? with
        | none => rfl
        | some e => rw [hes] at this; simp only [Option.map_some, Option.some.injEq, Prod.mk.injEq] at this; simp [this.1, hkp]
      simp only [Option.bind_some, hp, Option.map_some, Instr.keyThatStays, hkey, K.bits k k rfl, if_true, Sem.run_bind, Sem.run_pure, Result.andThen_ok]
      exact MapKept.run_setObj_map _ hb
  refine ⟨{ w with heap := w.heap.setIfInBounds b (.map es' clock') }, f (mp K b (aset m k v)), ?_, ⟨rfl, rfl⟩, ?_, ?_⟩
  · rw [hex, Sem.run_bind, hρ _ _ hx, hρ _ _ hy, hρ _ _ hu, hrun]; rfl
  · rfl
  · refine Sat.frameRep (hm.out _) hs fun h1 hA hl1 => ?_
    obtain ⟨es1, c1, hb1, _⟩ := mp_iff.1 hA
    refine ⟨Hp.upd h1 b (.map es' clock'), mp_iff.2 ⟨es', clock', by simp [Hp.upd], hents⟩, ?_, ?_, ?_⟩
    · intro z o hz
      unfold Hp.upd at hz
      by_cases e : z = b
      · subst e
        simp only [if_true, Option.some.injEq] at hz
        subst hz
        have : z < w.heap.size := (Array.getElem?_eq_some_iff.1 hb).1
        simp [hp, this]
      · simp only [e, if_false] at hz
        have := hl1 _ _ hz
        unfold hp at *
        simp only [Array.getElem?_setIfInBounds]
        rw [if_neg (fun h => e h.symm)]; exact this
    · intro z hz
      unfold Hp.upd at hz
      by_cases e : z = b
      · left; rw [e, hb1]; simp
      · left; simpa [e] using hz
    · intro z o hz hno
      unfold hp at *
      simp only [Array.getElem?_setIfInBounds]
      by_cases e : z = b
      · rw [e, hb1] at hno; cases hno
      · rw [if_neg (fun h => e h.symm)]; exact hz
end
end Go.KK

/- The text K20. -/
set_option linter.unusedVariables false
set_option linter.unusedSimpArgs false
set_option linter.unusedSectionVars false
namespace Go.KK

/-! Slices of slices: the headers are a slice of their own, the rows are owned together. -/
structure Hdr where
  a : Option Addr
  n : Nat
  cap : Nat
  deriving Inhabited
def hdrE (T : TypeId) : Enc Hdr := ⟨T, 1, fun h => [.slice h.a h.n h.cap], fun _ => rfl, fun s v h => by
  simp only [List.mem_cons, List.not_mem_nil, or_false] at h; rcases h with rfl; rfl⟩

section
variable {α : Type} {E : Enc α}
def rowL (E : Enc α) (hs : List Hdr) (xss : List (List α)) : List Asn := (hs.zip xss).map fun p => sl E p.1.a p.1.cap p.2
@[irreducible] def rows (E : Enc α) (hs : List Hdr) (xss : List (List α)) : Asn := fun h => hs.map (·.n) = xss.map (·.length) ∧ Sat h (rowL E hs xss)
/-- All rows but one. -/
@[irreducible] def rowsBut (E : Enc α) (i : Nat) (hs : List Hdr) (xss : List (List α)) : Asn := fun h => hs.map (·.n) = xss.map (·.length) ∧ Sat h ((rowL E hs xss).eraseIdx i)

theorem rows_len {hs : List Hdr} {xss : List (List α)} (h : hs.map (·.n) = xss.map (·.length)) : hs.length = xss.length := by simpa using congrArg List.length h
theorem rowL_len {hs : List Hdr} {xss : List (List α)} (h : hs.length = xss.length) : (rowL E hs xss).length = hs.length := by simp [rowL, h]
theorem rowL_get {hs : List Hdr} {xss : List (List α)} {i : Nat} {hd : Hdr} {xs : List α} (h1 : hs[i]? = some hd) (h2 : xss[i]? = some xs) : (rowL E hs xss)[i]? = some (sl E hd.a hd.cap xs) := by
  have h := (List.getElem?_zip_eq_some (l₁ := hs) (l₂ := xss) (z := (hd, xs)) (i := i)).2 ⟨h1, h2⟩
  simp only [rowL, List.getElem?_map, h, Option.map_some]

theorem rows_iff {hs : List Hdr} {xss : List (List α)} {L : List Asn} {h : Hp} : Sat h (rows E hs xss :: L) ↔ hs.map (·.n) = xss.map (·.length) ∧ Sat h (rowL E hs xss ++ L) := by
  rw [← Sat.star]
  constructor
  · rintro ⟨h1, h2, d, l1, l2, a, s⟩
    unfold rows at a
    exact ⟨a.1, h1, h2, d, l1, l2, a.2, s⟩
  · rintro ⟨e, h1, h2, d, l1, l2, a, s⟩
    refine ⟨h1, h2, d, l1, l2, ?_, s⟩
    unfold rows
    exact ⟨e, a⟩
theorem rowsBut_iff {i : Nat} {hs : List Hdr} {xss : List (List α)} {L : List Asn} {h : Hp} : Sat h (rowsBut E i hs xss :: L) ↔ hs.map (·.n) = xss.map (·.length) ∧ Sat h ((rowL E hs xss).eraseIdx i ++ L) := by
  rw [← Sat.star]
  constructor
  · rintro ⟨h1, h2, d, l1, l2, a, s⟩
    unfold rowsBut at a
    exact ⟨a.1, h1, h2, d, l1, l2, a.2, s⟩
  · rintro ⟨e, h1, h2, d, l1, l2, a, s⟩
    refine ⟨h1, h2, d, l1, l2, ?_, s⟩
    unfold rowsBut
    exact ⟨e, a⟩

theorem perm_erase {β : Type} : ∀ {l : List β} {i : Nat} {x : β}, l[i]? = some x → l.Perm (x :: l.eraseIdx i)
  | y :: l, 0, x, h => by simp at h; subst h; simp
  | y :: l, i + 1, x, h => by
    simp only [List.getElem?_cons_succ] at h
    simp only [List.eraseIdx_cons_succ]
    exact ((perm_erase h).cons y).trans (.swap _ _ _)
theorem perm_set {β : Type} : ∀ {l : List β} {i : Nat} {x y : β}, l[i]? = some x → (l.set i y).Perm (y :: l.eraseIdx i)
  | z :: l, 0, x, y, h => by simp
  | z :: l, i + 1, x, y, h => by
    simp only [List.getElem?_cons_succ] at h
    simp only [List.eraseIdx_cons_succ, List.set_cons_succ]
    exact ((perm_set h).cons z).trans (.swap _ _ _)

theorem rows_nil {L : List Asn} {h : Hp} (hs : Sat h L) : Sat h (rows E [] [] :: L) := rows_iff.2 ⟨rfl, by simpa [rowL] using hs⟩
theorem rows_open {hs : List Hdr} {xss : List (List α)} {L : List Asn} {h : Hp} {i : Nat} {hd : Hdr} {xs : List α} (h1 : hs[i]? = some hd) (h2 : xss[i]? = some xs) (s : Sat h (rows E hs xss :: L)) :
    Sat h (sl E hd.a hd.cap xs :: rowsBut E i hs xss :: L) := by
  obtain ⟨e, s⟩ := rows_iff.1 s
  have p := (perm_erase (rowL_get (E := E) h1 h2)).append_right L
  have s2 := s.perm p
  simp only [List.cons_append] at s2
  obtain ⟨k1, k2, d, l1, l2, a, s3⟩ := s2
  exact ⟨k1, k2, d, l1, l2, a, rowsBut_iff.2 ⟨e, s3⟩⟩

theorem rowL_set {hs : List Hdr} {xss : List (List α)} {i : Nat} {hd : Hdr} {xs : List α} : rowL E (hs.set i hd) (xss.set i xs) = (rowL E hs xss).set i (sl E hd.a hd.cap xs) := by
  unfold rowL
  apply List.ext_getElem?
  intro j
  by_cases hij : i = j
  · subst hij
    by_cases h1 : i < hs.length
    · by_cases h2 : i < xss.length
      · rw [List.getElem?_set_self (by simp; omega)]
        have h := (List.getElem?_zip_eq_some (l₁ := hs.set i hd) (l₂ := xss.set i xs) (z := (hd, xs)) (i := i)).2 ⟨List.getElem?_set_self h1, List.getElem?_set_self h2⟩
        simp only [List.getElem?_map, h, Option.map_some]
      · rw [List.getElem?_eq_none (by simp; omega), List.getElem?_eq_none (by simp; omega)]
    · rw [List.getElem?_eq_none (by simp; omega), List.getElem?_eq_none (by simp; omega)]
  · rw [List.getElem?_set_ne hij]
    simp only [List.getElem?_map]
    congr 1
    simp only [List.zip_eq_zipWith, List.getElem?_zipWith, List.getElem?_set_ne hij]

theorem rows_shut {hs : List Hdr} {xss : List (List α)} {L : List Asn} {h : Hp} {i : Nat} {hd : Hdr} {xs : List α} (hi : i < hs.length) (hl : hd.n = xs.length)
    (s : Sat h (sl E hd.a hd.cap xs :: rowsBut E i hs xss :: L)) : Sat h (rows E (hs.set i hd) (xss.set i xs) :: L) := by
  obtain ⟨k1, k2, d, l1, l2, a, s3⟩ := s
  obtain ⟨e, s4⟩ := rowsBut_iff.1 s3
  have hlen := rows_len e
  refine rows_iff.2 ⟨?_, ?_⟩
  · rw [List.map_set, List.map_set, e, hl]
  · rw [rowL_set]
    have h0 : (rowL E hs xss)[i]? = some ((rowL E hs xss)[i]'(by rw [rowL_len hlen]; exact hi)) := List.getElem?_eq_getElem _
    refine Sat.perm (((perm_set h0).append_right L).symm) ?_
    exact ⟨k1, k2, d, l1, l2, a, s4⟩
theorem set_same {β : Type} {l : List β} {i : Nat} {x : β} (h : l[i]? = some x) : l.set i x = l := by
  apply List.ext_getElem?
  intro j
  by_cases hij : i = j
  · subst hij; rw [List.getElem?_set_self (List.getElem?_eq_some_iff.1 h).1, h]
  · rw [List.getElem?_set_ne hij]
theorem rows_back {hs : List Hdr} {xss : List (List α)} {L : List Asn} {h : Hp} {i : Nat} {hd : Hdr} {xs : List α} (h1 : hs[i]? = some hd) (hl : hd.n = xs.length)
    (s : Sat h (sl E hd.a hd.cap xs :: rowsBut E i hs xss :: L)) : Sat h (rows E hs (xss.set i xs) :: L) := by
  have := rows_shut (List.getElem?_eq_some_iff.1 h1).1 hl s
  rwa [set_same h1] at this

theorem rows_snoc {hs : List Hdr} {xss : List (List α)} {L : List Asn} {h : Hp} {a : Option Addr} {n cap : Nat} {xs : List α} (hn : n = xs.length)
    (s : Sat h (sl E a cap xs :: rows E hs xss :: L)) : Sat h (rows E (hs ++ [⟨a, n, cap⟩]) (xss ++ [xs]) :: L) := by
  obtain ⟨k1, k2, d, l1, l2, a', s3⟩ := s
  obtain ⟨e, s4⟩ := rows_iff.1 s3
  have hlen := rows_len e
  refine rows_iff.2 ⟨by simp [e, hn], ?_⟩
  have e2 : rowL E (hs ++ [⟨a, n, cap⟩]) (xss ++ [xs]) = rowL E hs xss ++ [sl E a cap xs] := by
    unfold rowL
    rw [List.zip_append hlen]; simp
  rw [e2]
  refine Sat.perm (L := sl E a cap xs :: (rowL E hs xss ++ L)) ?_ ⟨k1, k2, d, l1, l2, a', s4⟩
  simpa using (List.perm_middle (l₁ := rowL E hs xss) (a := sl E a cap xs) (l₂ := L)).symm

theorem rows_new {L : List Asn} {h : Hp} (s : Sat h L) : ∀ n : Nat, Sat h (rows E (List.replicate n ⟨none, 0, 0⟩) (List.replicate n []) :: L)
  | 0 => rows_nil s
  | n + 1 => by
    have h1 := rows_new s n
    have h2 : Sat h (sl E none 0 [] :: rows E (List.replicate n ⟨none, 0, 0⟩) (List.replicate n []) :: L) := sl_nil_new h1
    have := rows_snoc (n := 0) rfl h2
    rw [List.replicate_succ', List.replicate_succ']
    exact this

end
class RowsIn {α : outParam Type} (E : outParam (Enc α)) (L : List Asn) (hs : List Hdr) (xss : outParam (List (List α))) : Prop where
  out : ∀ h, Sat h L → hs.map (·.n) = xss.map (·.length) ∧ ∀ A ∈ rowL E hs xss, ∃ h1, Hp.le h1 h ∧ A h1
instance RowsIn.head {α : Type} {E : Enc α} {L : List Asn} {hs : List Hdr} {xss : List (List α)} : RowsIn E (rows E hs xss :: L) hs xss := ⟨fun h s => by
  obtain ⟨e, s⟩ := rows_iff.1 s
  exact ⟨e, fun A hA => Sat.mem (List.mem_append_left _ hA) s⟩⟩
instance (priority := 900) RowsIn.tail {α : Type} {E : Enc α} {A : Asn} {L : List Asn} {hs : List Hdr} {xss : List (List α)} [hh : RowsIn E L hs xss] : RowsIn E (A :: L) hs xss := ⟨fun h s => hh.out h s.tail⟩
theorem RowsIn.row {α : Type} {E : Enc α} {L : List Asn} {hs : List Hdr} {xss : List (List α)} (hh : RowsIn E L hs xss) {i : Nat} {hd : Hdr} {xs : List α} (h1 : hs[i]? = some hd) (h2 : xss[i]? = some xs) : SlIn E L hd.a xs := ⟨fun h s => by
  obtain ⟨_, hA⟩ := hh.out h s
  obtain ⟨k, l, a⟩ := hA _ (List.mem_of_getElem? (rowL_get (E := E) h1 h2))
  exact (sl.slR a).mono l⟩
theorem RowsBut.row {α : Type} {E : Enc α} {L : List Asn} {hs : List Hdr} {xss : List (List α)} {i j : Nat} (hm : rowsBut E i hs xss ∈ L) (hij : i ≠ j) {hd : Hdr} {xs : List α} (h1 : hs[j]? = some hd) (h2 : xss[j]? = some xs) : SlIn E L hd.a xs := ⟨fun h s => by
  obtain ⟨k, l, a⟩ := Sat.mem hm s
  unfold rowsBut at a
  have hg := rowL_get (E := E) h1 h2
  have hmem : sl E hd.a hd.cap xs ∈ (rowL E hs xss).eraseIdx i := by
    rw [List.mem_eraseIdx_iff_getElem?]
    exact ⟨j, fun e => hij e.symm, hg⟩
  obtain ⟨k2, l2, a2⟩ := Sat.mem hmem a.2
  exact (sl.slR a2).mono (Hp.le_trans l2 l)⟩
end Go.KK

/- The text K21. -/
set_option linter.unusedVariables false
set_option linter.unusedSimpArgs false
namespace Go.KK
section
variable {P : Program} {F : Fr} {L : List Asn} {dst : Option Tmp} {ty : TypeId} {pos : String} {aft : Array Edge} {gd : Option (Nat × Bool)}
theorem Pur.max2 {x y : Operand} {k : IntKind} {a b : Int} {tys : Array TypeId} (hx : ev F x = some (.int k a)) (hy : ev F y = some (.int k b)) :
    Pur P F L ⟨dst, .call ⟨.builtin .max, #[x, y], tys⟩, ty, pos, aft, gd⟩ (.int k (max a b)) := fun ρ w hρ _ => by
  have e : (if b > a then b else a) = max a b := by split <;> omega
  simp [execOp, resolve, invoke, builtin, Builtin.max_, Builtin.max2, hρ _ _ hx, hρ _ _ hy, go_sem]
  exact e
theorem Pur.min2 {x y : Operand} {k : IntKind} {a b : Int} {tys : Array TypeId} (hx : ev F x = some (.int k a)) (hy : ev F y = some (.int k b)) :
    Pur P F L ⟨dst, .call ⟨.builtin .min, #[x, y], tys⟩, ty, pos, aft, gd⟩ (.int k (min a b)) := fun ρ w hρ _ => by
  have e : (if b < a then b else a) = min a b := by split <;> omega
  simp [execOp, resolve, invoke, builtin, Builtin.min_, Builtin.min2, hρ _ _ hx, hρ _ _ hy, go_sem]
  exact e
end
end Go.KK

/- The text K22. -/
/-!
  Lists of assertions put in another order, or shortened, by instances.
-/
set_option linter.unusedVariables false
set_option linter.unusedSimpArgs false
namespace Go.KK
class PullC (A : Asn) (L : List Asn) (R : outParam (List Asn)) : Prop where out : L.Perm (A :: R)
instance PullC.head {A : Asn} {L : List Asn} : PullC A (A :: L) L := ⟨.refl _⟩
instance (priority := 900) PullC.tail {A B : Asn} {L R : List Asn} [h : PullC A L R] : PullC A (B :: L) (B :: R) := ⟨(h.out.cons B).trans (.swap _ _ _)⟩
class SubC (L M : List Asn) : Prop where out : ∀ h, Sat h L → Sat h M
instance (priority := 1100) SubC.refl {L : List Asn} : SubC L L := ⟨fun _ h => h⟩
instance (priority := 1050) SubC.nil {L : List Asn} : SubC L [] := ⟨fun _ _ => trivial⟩
instance SubC.cons {A : Asn} {L R M : List Asn} [h : PullC A L R] [s : SubC R M] : SubC L (A :: M) := ⟨fun k hs => (hs.perm h.out).cons_imp (fun _ h => h) (fun _ h => s.out _ h)⟩
instance (priority := 800) SubC.drop {B : Asn} {L M : List Asn} [s : SubC L M] : SubC (B :: L) M := ⟨fun k hs => s.out k hs.tail⟩

section
variable {P : Program} {f : FuncId} {args : Array Value} {L : List Asn} {Q : Value → List Asn → Prop}
theorem CallS.p1 {A : Asn} {R : List Asn} (hp : PullC A L R) (h : CallS P f args (A :: R) Q) : CallS P f args L Q := h.pre fun _ hs => hs.perm hp.out
theorem CallS.p2 {A B : Asn} {R R' : List Asn} (hp : PullC A L R) (hq : PullC B R R') (h : CallS P f args (A :: B :: R') Q) : CallS P f args L Q := h.pre fun _ hs => hs.perm (hp.out.trans (hq.out.cons _))
theorem CallS.p3 {A B D : Asn} {R R' R2 : List Asn} (hp : PullC A L R) (hq : PullC B R R') (hr : PullC D R' R2) (h : CallS P f args (A :: B :: D :: R2) Q) : CallS P f args L Q := h.pre fun _ hs => hs.perm (hp.out.trans ((hq.out.trans (hr.out.cons _)).cons _))
theorem CallS.p4 {A B D D' : Asn} {R R' R2 R3 : List Asn} (hp : PullC A L R) (hq : PullC B R R') (hr : PullC D R' R2) (hv : PullC D' R2 R3) (h : CallS P f args (A :: B :: D :: D' :: R3) Q) : CallS P f args L Q := h.pre fun _ hs => hs.perm (hp.out.trans ((hq.out.trans ((hr.out.trans (hv.out.cons _)).cons _)).cons _))
end
section rules
variable {c : Cx} {F : Fr} {L M : List Asn} {k : List Item} {ops rest : List Oper}
theorem J.sub [s : SubC L M] (h : J c F M k) : J c F L k := J.imp s.out h
theorem JO.sub [s : SubC L M] (h : JO c ops F M rest k) : JO c ops F L rest k := JO.imp s.out h
theorem J.pullC {A : Asn} {R : List Asn} (hp : PullC A L R) (h : J c F (A :: R) k) : J c F L k := J.perm hp.out h
theorem JO.pullC {A : Asn} {R : List Asn} (hp : PullC A L R) (h : JO c ops F (A :: R) rest k) : JO c ops F L rest k := JO.perm hp.out h
/-- The ways through a block meet: what is behind it is walked once. -/
theorem J.cut {ι : Type} {x : Item} (good : ι → Prop) (I : ι → Fr) (F0 : Fr) (H : ι → List Asn) (hF0 : Picks F F0) (h1 : ∀ i, good i → J c (I i ++ F0) (H i) k)
    (h2 : (∀ i, good i → J c (I i ++ F0) (H i) k) → J c F L (x :: k)) : J c F L (x :: k) := h2 h1
end rules
class SlP {α : outParam Type} (E : outParam (Enc α)) (a : Option Addr) (cap : Nat) (L : List Asn) (xs : outParam (List α)) (R : outParam (List Asn)) : Prop where out : L.Perm (sl E a cap xs :: R)
instance SlP.head {α : Type} {E : Enc α} {a : Option Addr} {cap : Nat} {L : List Asn} {xs : List α} : SlP E a cap (sl E a cap xs :: L) xs L := ⟨.refl _⟩
instance (priority := 900) SlP.tail {α : Type} {E : Enc α} {a : Option Addr} {cap : Nat} {B : Asn} {L R : List Asn} {xs : List α} [h : SlP E a cap L xs R] : SlP E a cap (B :: L) xs (B :: R) := ⟨(h.out.cons B).trans (.swap _ _ _)⟩
class RowP {α : outParam Type} (E : outParam (Enc α)) (hs : List Hdr) (L : List Asn) (xss : outParam (List (List α))) (R : outParam (List Asn)) : Prop where out : L.Perm (rows E hs xss :: R)
instance RowP.head {α : Type} {E : Enc α} {hs : List Hdr} {L : List Asn} {xss : List (List α)} : RowP E hs (rows E hs xss :: L) xss L := ⟨.refl _⟩
instance (priority := 900) RowP.tail {α : Type} {E : Enc α} {hs : List Hdr} {B : Asn} {L R : List Asn} {xss : List (List α)} [h : RowP E hs L xss R] : RowP E hs (B :: L) xss (B :: R) := ⟨(h.out.cons B).trans (.swap _ _ _)⟩
class RBP {α : outParam Type} (E : outParam (Enc α)) (i : Nat) (hs : List Hdr) (L : List Asn) (xss : outParam (List (List α))) (R : outParam (List Asn)) : Prop where out : L.Perm (rowsBut E i hs xss :: R)
instance RBP.head {α : Type} {E : Enc α} {i : Nat} {hs : List Hdr} {L : List Asn} {xss : List (List α)} : RBP E i hs (rowsBut E i hs xss :: L) xss L := ⟨.refl _⟩
instance (priority := 900) RBP.tail {α : Type} {E : Enc α} {i : Nat} {hs : List Hdr} {B : Asn} {L R : List Asn} {xss : List (List α)} [h : RBP E i hs L xss R] : RBP E i hs (B :: L) xss (B :: R) := ⟨(h.out.cons B).trans (.swap _ _ _)⟩
section
variable {α : Type} {E : Enc α}
theorem open_row {hs : List Hdr} {xss : List (List α)} {L R : List Asn} [p : RowP E hs L xss R] {h : Hp} {i : Nat} {hd : Hdr} {xs : List α} (h1 : hs[i]? = some hd) (h2 : xss[i]? = some xs) (s : Sat h L) :
    Sat h (sl E hd.a hd.cap xs :: rowsBut E i hs xss :: R) := rows_open h1 h2 (s.perm p.out)
theorem shut_row {hs : List Hdr} {xss : List (List α)} {L R R' : List Asn} {hd : Hdr} {xs : List α} {i : Nat} [p : SlP E hd.a hd.cap L xs R] [q : RBP E i hs R xss R'] {h : Hp} (h1 : hs[i]? = some hd) (hl : hd.n = xs.length) (s : Sat h L) :
    Sat h (rows E hs (xss.set i xs) :: R') := rows_back h1 hl (s.perm (p.out.trans (q.out.cons _)))
theorem rows_put {hs : List Hdr} {xss : List (List α)} {L : List Asn} {h : Hp} {i : Nat} {hd : Hdr} {xs : List α} (hi : i < hs.length) (hl : hd.n = xs.length) (s : Sat h (sl E hd.a hd.cap xs :: rows E hs xss :: L)) :
    Sat h (rows E (hs.set i hd) (xss.set i xs) :: L) := by
  obtain ⟨k1, k2, d, l1, l2, a, s2⟩ := s
  obtain ⟨e, s3⟩ := rows_iff.1 s2
  have hlen := rows_len e
  have h1 : hs[i]? = some hs[i] := List.getElem?_eq_getElem hi
  have h2 : xss[i]? = some (xss[i]'(by omega)) := List.getElem?_eq_getElem (by omega)
  have s4 := (rows_open h1 h2 s2).tail
  exact rows_shut hi hl ⟨k1, k2, d, l1, l2, a, s4⟩
theorem put_row {hs : List Hdr} {xss : List (List α)} {L R R' : List Asn} {a : Option Addr} {n cap : Nat} {xs : List α} [p : SlP E a cap L xs R] [q : RowP E hs R xss R'] {i : Nat} {h : Hp} (hi : i < hs.length) (hl : n = xs.length) (s : Sat h L) :
    Sat h (rows E (hs.set i ⟨a, n, cap⟩) (xss.set i xs) :: R') := rows_put (hd := ⟨a, n, cap⟩) hi hl (s.perm (p.out.trans (q.out.cons _)))
theorem snoc_row {hs : List Hdr} {xss : List (List α)} {L R R' : List Asn} {a : Option Addr} {n cap : Nat} {xs : List α} [p : SlP E a cap L xs R] [q : RowP E hs R xss R'] {h : Hp} (hl : n = xs.length) (s : Sat h L) :
    Sat h (rows E (hs ++ [⟨a, n, cap⟩]) (xss ++ [xs]) :: R') := rows_snoc hl (s.perm (p.out.trans (q.out.cons _)))
theorem RowsIn.n {L : List Asn} {hs : List Hdr} {xss : List (List α)} [hh : RowsIn E L hs xss] {h : Hp} (s : Sat h L) : hs.map (·.n) = xss.map (·.length) := (hh.out h s).1
theorem hdr_n {hs : List Hdr} {xss : List (List α)} (e : hs.map (·.n) = xss.map (·.length)) {i : Nat} {hd : Hdr} {xs : List α} (h1 : hs[i]? = some hd) (h2 : xss[i]? = some xs) : hd.n = xs.length := by
  have := congrArg (·[i]?) e
  simp only [List.getElem?_map, h1, h2, Option.map_some, Option.some.injEq] at this
  exact this
end
class RBIn {α : outParam Type} (E : outParam (Enc α)) (L : List Asn) (i : Nat) (hs : List Hdr) (xss : outParam (List (List α))) : Prop where out : rowsBut E i hs xss ∈ L
theorem RBIn.row {α : Type} {E : Enc α} {L : List Asn} {hs : List Hdr} {xss : List (List α)} {i j : Nat} (hh : RBIn E L i hs xss) (hij : i ≠ j) {hd : Hdr} {xs : List α} (h1 : hs[j]? = some hd) (h2 : xss[j]? = some xs) : SlIn E L hd.a xs := RowsBut.row hh.out hij h1 h2
instance RBIn.head {α : Type} {E : Enc α} {L : List Asn} {i : Nat} {hs : List Hdr} {xss : List (List α)} : RBIn E (rowsBut E i hs xss :: L) i hs xss := ⟨List.mem_cons_self⟩
instance (priority := 900) RBIn.tail {α : Type} {E : Enc α} {A : Asn} {L : List Asn} {i : Nat} {hs : List Hdr} {xss : List (List α)} [hh : RBIn E L i hs xss] : RBIn E (A :: L) i hs xss := ⟨List.mem_cons_of_mem _ hh.out⟩
end Go.KK

/- The text K23. -/
/-!
  Scopes, labels, results that lie in memory.
-/
set_option linter.unusedVariables false
set_option linter.unusedSimpArgs false
namespace Go.KK
def isLab : Code → Bool | .label _ => true | _ => false
section rules
variable {c : Cx} {F : Fr} {L M : List Asn} {k : List Item}
theorem J.label {x : Code} (hk : isLab x = true) (h : J c F L k) : J c F L (.code x :: k) := fun a w hF hs =>
  Go1.of_steps (fun cs => by
    cases x <;> simp only [isLab, Bool.false_eq_true, reduceCtorEq] at hk
    case label => exact .one step_label) (h a w hF hs)
theorem J.scope {x : Code} (hk : kind x = 8) (h : J c F L (.code (cL x) :: .inScope (cL x) :: k)) : J c F L (.code x :: k) := fun a w hF hs =>
  Go1.of_steps (fun cs => by
    cases x <;> simp only [kind, reduceCtorEq, Nat.reduceEqDiff, Nat.succ_ne_self] at hk
    case scope => exact .one step_scope
    case region id ops d => cases d <;> simp [kind] at hk) (h a w hF hs)
theorem J.inScope {x : Code} (h : J c F L k) : J c F L (.inScope x :: k) := fun a w hF hs => Go1.of_steps (fun _ => .one step_inScope) (h a w hF hs)
end rules

inductive ResL (P : Program) (F : Fr) (L : List Asn) : List ResultVar → List Value → Prop
  | nil : ResL P F L [] []
  | tmp {t : Nat} {v : Value} {r : List ResultVar} {vs : List Value} : get F t = some v → ResL P F L r vs → ResL P F L (.tmp t :: r) (v :: vs)
  | cell {a t : Nat} {p : Addr} {v : Value} {r : List ResultVar} {vs : List Value} : get F a = some (.pointer (some p)) → (∀ w, Sat (hp w) L → (loadVar t p).run P w = .ok v w) → ResL P F L r vs → ResL P F L (.cell a t :: r) (v :: vs)
theorem ResL.len {P : Program} {F : Fr} {L : List Asn} {rs : List ResultVar} {vs : List Value} (h : ResL P F L rs vs) : vs.length = rs.length := by
  induction h <;> simp_all

theorem run_mapM_res (P : Program) (w : World) (tmps : Array Value) (F : Fr) (L : List Asn) (hs : Sat (hp w) L) (hF : ∀ t v, get F t = some v → tmps.getD t undef = v) (g : ResultVar → Sem Value)
    (hg : ∀ t, g (.tmp t) = Pure.pure (tmps.getD t undef)) (hg2 : ∀ a t, g (.cell a t) = (do loadVar t (← asAddr (tmps.getD a undef)))) {rs : List ResultVar} {vs : List Value} (h : ResL P F L rs vs) :
    ∀ (acc : List Value), (List.mapM.loop g rs acc).run P w = .ok (acc.reverse ++ vs) w := by
  induction h with
  | nil => intro acc; simp [List.mapM.loop, run_pure]
  | @tmp t v r vs hv _ ih =>
    intro acc
    have e : List.mapM.loop g (.tmp t :: r) acc = (do let v ← g (.tmp t); List.mapM.loop g r (v :: acc)) := rfl
    rw [e, Sem.run_bind, hg, hF _ _ hv, run_pure]
    simp only [Result.andThen]
    rw [ih]; simp
  | @cell a t p v r vs hv hl _ ih =>
    intro acc
    have e : List.mapM.loop g (.cell a t :: r) acc = (do let v ← g (.cell a t); List.mapM.loop g r (v :: acc)) := rfl
    have e2 : (g (.cell a t)).run P w = .ok v w := by
      rw [hg2, hF _ _ hv]
      have := hl w hs
      simpa [asAddr, go_sem] using this
    rw [e, Sem.run_bind, e2]
    simp only [Result.andThen]
    rw [ih]; simp
theorem run_resultsC (fn : Func) (P : Program) (w : World) (tmps : Array Value) (F : Fr) (L : List Asn) (hs : Sat (hp w) L) (rs : List ResultVar) (vs : List Value) (hr : fn.results = rs.toArray)
    (hF : ∀ t v, get F t = some v → tmps.getD t undef = v) (h : ResL P F L rs vs) : (results fn tmps).run P w = .ok (tupV vs) w := by
  unfold results
  rw [hr]
  have h1 := run_mapM_res P w tmps F L hs hF (fun | .tmp t => Pure.pure (tmps.getD t undef) | .cell a t => do loadVar t (← asAddr (tmps.getD a undef))) (fun _ => rfl) (fun _ _ => rfl) h []
  rw [Sem.run_bind]
  have e : (Array.mapM (m := Sem) (fun | .tmp t => Pure.pure (tmps.getD t undef) | .cell a t => do loadVar t (← asAddr (tmps.getD a undef))) rs.toArray).run P w = .ok vs.toArray w := by
    rw [List.mapM_toArray]
    simp only [Functor.map, List.mapM]
    rw [Sem.run_bind', h1]
    rfl
  refine (congrArg (fun r => Result.andThen r _) e).trans ?_
  simp only [Result.andThen]
  have hl := h.len
  match vs, hl with
  | [], _ => rfl
  | [v], _ => rfl
  | v :: u :: r, _ => rfl
section
variable {P : Program} {L : List Asn}
theorem ld_agg {t n b o : Nat} [hs : Agg P t n] {cs : List Value} (hn : cs.length = n) (hc : CellsIn L ⟨b, o, none⟩ cs) : ∀ w, Sat (hp w) L → (loadVar t ⟨b, o, none⟩).run P w = .ok (.agg cs.toArray) w := fun w hw => by
  have h1 := Agg.run (w := w) hs.agg
  have h3 : (sizeOf t).run P w = .ok n w := run_sizeOf_of hs.size
  have h2 := run_loadCells_list (P := P) (w := w) ⟨b, o, none⟩ cs (fun j v hj => by
    have h := hc _ hw j v hj
    rw [cell?_eq]
    have : (⟨b, o, none⟩ : Addr).add j = ⟨b, o + j, none⟩ := by unfold Addr.add; split <;> simp_all
    rw [this]; exact h)
  rw [hn] at h2
  unfold loadCells at h2
  simp [loadVar, h1, h2, h3, loadCells, go_sem]
theorem ld_scl {t : Nat} {p : Addr} {v : Value} [hs : Scl P t] (hc : CellIn L p v) : ∀ w, Sat (hp w) L → (loadVar t p).run P w = .ok v w := fun w hw => by
  have h1 := Scl.run (w := w) hs.out
  have h2 : w.cell? p = some v := hc _ hw
  simp [loadVar, h1, h2, go_sem]
end
section rules
variable {c : Cx} {F : Fr} {L M : List Asn} {k : List Item}
theorem J.retC {x : Code} {vs : List Value} (hk : kind x = 9) (hv : ResL c.P F L c.res vs) (hq : c.Q (tupV vs) L) : J c F L (.code x :: k) := by
  intro a w hF hs fn hf hr cs
  cases x <;> simp only [kind, reduceCtorEq, Nat.reduceEqDiff, Nat.succ_ne_self] at hk
  case region id ops d => cases d <;> simp [kind] at hk
  case ret =>
    exact ⟨_, L, w, _, hq, hs, rfl, .one step_ret, rfl, rfl, by simp [Frame.at, hF.nodef], rfl, fn, hf, run_resultsC fn c.P w a.tmps F L hs c.res vs hr hF.val hv⟩
end rules
theorem CallS.fact {P : Program} {f : FuncId} {args : Array Value} {L : List Asn} {Q : Value → List Asn → Prop} {p : Prop} (hp : ∀ h, Sat h L → p) (h : p → CallS P f args L Q) : CallS P f args L Q := fun w hs => h (hp _ hs) w hs
theorem CallS.eqv {P : Program} {f : FuncId} {args : Array Value} {L : List Asn} {v v' : Value} (h : CallS P f args L (fun u M => u = v ∧ M = L)) (e : v = v') : CallS P f args L (fun u M => u = v' ∧ M = L) := e ▸ h
theorem SlIn.nil {α : Type} {E : Enc α} {L : List Asn} {a : Option Addr} : SlIn E L a [] := ⟨fun _ _ => .inl rfl⟩
end Go.KK

/- The text K24. -/
/-!
  A slice argument of structs whose fields are ints, strings and bools, as a list.
-/
set_option linter.unusedVariables false
set_option linter.unusedSimpArgs false
namespace Go.KK
open Go.ChangeShapes Go.WideShapes Go.ChangeAt Go.RowKit
def isV : Nat → Value → Prop
  | 0, v => ∃ z : Int, v = .int .i64 z
  | 1, v => ∃ s : ByteArray, v = .string s
  | _, v => ∃ b : Bool, v = .bool b
def kindB (P : Program) (t : TypeId) : Option Nat :=
  match P.underlying t with
  | some (.int .i64) => some 0
  | some .string => some 1
  | some .bool => some 2
  | _ => none
section
open Go.Deep
variable {H : Type} {enc : TypeId × Value → H} {P : Program} {w : World} {base : Nat} {spare : Nat → Bool} {held : Bool}
theorem kind_cell {t κ fuel : Nat} {v : Value} {x : DataW H × List MemPlace} (hk : kindB P t = some κ) (h : DataW.trod enc P w base spare held fuel t [v] = some x) : isV κ v := by
  unfold kindB at hk
  split at hk
  · rename_i hu
    cases hk
    obtain ⟨z, e, _⟩ := DataW.trod_int hu h
    simp only [List.cons.injEq, and_true] at e
    exact ⟨z, e⟩
  · rename_i hu
    cases hk
    obtain ⟨z, e, _⟩ := DataW.trod_string hu h
    simp only [List.cons.injEq, and_true] at e
    exact ⟨z, e⟩
  · rename_i hu
    cases hk
    obtain ⟨z, e, _⟩ := DataW.trod_bool hu h
    simp only [List.cons.injEq, and_true] at e
    exact ⟨z, e⟩
  · cases hk

theorem open_recs {α : Type} [Inhabited α] (E : Enc α) {t e : TypeId} {fs : Array Field} {v : Value} {d : DataW H} {ps : List MemPlace} (ht : P.underlying t = some (.slice e)) (he : P.underlying e = some (.struct fs))
    (hone : oneCellFields P fs = true) (hC : P.cellsOf e = fs.size) (hm : E.m = fs.size) (hpos : 0 < fs.size) {ks : List Nat} (hall : fs.toList.map (fun f => kindB P f.type) = ks.map some)
    (hmk : ∀ g : Nat → Value, (∀ k κ, ks[k]? = some κ → isV κ (g k)) → ∃ x : α, ∀ k u, k < fs.size → (E.enc x)[k]? = some u → u = g k)
    (hv : ∃ a len cap, v = .slice a len cap) (h : DataW.Trod enc P w base spare held t v d ps) : ∃ (a : Option Addr) (xs : List α) (cap : Nat), v = .slice a xs.length cap ∧ xs.length ≤ maxLen ∧ xs.length ≤ cap ∧ (a = none → xs = [] ∧ cap = 0) ∧ slR E (hp w) a xs := by
  have hkl : ks.length = fs.size := by have := congrArg List.length hall; simpa using this.symm
  have hint : ∀ (j : Nat) (f : Field), fs[j]? = some f → ∃ κ, ks[j]? = some κ ∧ kindB P f.type = some κ := fun j f hj => by
    have h1 := congrArg (·[j]?) hall
    simp only [List.getElem?_map, Array.getElem?_toList, hj, Option.map_some] at h1
    cases hk : ks[j]? with
    | none => rw [hk] at h1; simp at h1
    | some κ => rw [hk] at h1; exact ⟨κ, rfl, by simpa using h1⟩
  obtain ⟨fuel, hf⟩ := h
  obtain ⟨a0, len0, cap0, rfl⟩ := hv
  rcases open_slice_fields ht he hone hC hf with h0 | ⟨a, len, cap, h0, h1, h2, hi⟩
  · simp [Value.cells] at h0
    obtain ⟨rfl, rfl, rfl⟩ := h0
    exact ⟨none, [], 0, rfl, by unfold maxLen; simp, by simp, fun _ => ⟨rfl, rfl⟩, .inl rfl⟩
  · simp [Value.cells] at h0
    obtain ⟨rfl, rfl, rfl⟩ := h0
    have hex : ∀ i, i < len0 → ∃ x : α, ∀ k u, k < E.m → (E.enc x)[k]? = some u → w.cell? (a.add (i * E.m + k)) = some u := by
      intro i hil
      obtain ⟨n, hn⟩ := hi i hil
      have hg : ∀ k, k < fs.size → ∃ z : Value, w.cell? (a.add (i * fs.size + k)) = some z ∧ ∀ κ, ks[k]? = some κ → isV κ z := by
        intro k hk
        obtain ⟨v, y, c1, c2⟩ := hn k fs[k] (Array.getElem?_eq_getElem hk)
        obtain ⟨κ, k1, k2⟩ := hint k _ (Array.getElem?_eq_getElem hk)
        exact ⟨v, c1, fun κ' h' => by rw [k1] at h'; cases h'; exact kind_cell k2 c2⟩
      obtain ⟨g, hg⟩ := choose_lt hg
      obtain ⟨x, hx⟩ := hmk g (fun k κ hk => (hg k (by rw [← hkl]; exact (List.getElem?_eq_some_iff.1 hk).1)).2 κ hk)
      refine ⟨x, fun k u hk hu => ?_⟩
      rw [hm] at hk ⊢
      rw [hx k u hk hu]
      exact (hg k hk).1
    obtain ⟨F, hF⟩ := choose_lt hex
    refine ⟨some a, (List.range len0).map F, cap0, by simp, by simp; omega, by simp; omega, (fun h => by cases h), slR_of (by omega) ?_⟩
    intro i x hx k u hk hu
    rw [List.getElem?_map] at hx
    by_cases hil : i < len0
    · rw [List.getElem?_range hil] at hx
      simp only [Option.map_some, Option.some.injEq] at hx
      subst hx
      exact hF i hil k u hk hu
    · rw [List.getElem?_eq_none (by simp; omega)] at hx; cases hx
end
end Go.KK

/- The text K25. -/
/-!
  A string's bytes; an array within a block.
-/
set_option linter.unusedVariables false
set_option linter.unusedSimpArgs false
namespace Go.KK
section
variable {P : Program} {F : Fr} {L : List Asn} {dst : Option Tmp} {ty : TypeId} {pos : String} {aft : Array Edge} {gd : Option (Nat × Bool)}
theorem Pur.indexT {t : Nat} [ht : StT' P t] {x ix : Operand} {s : ByteArray} {k : IntKind} {i : Int} {n : Nat} {b : UInt8} (hx : ev F x = some (.string s)) (hi : ev F ix = some (.int k i)) (hn : i = (n : Int)) (hb : s[n]? = some b) :
    Pur P F L ⟨dst, .index t x ix, ty, pos, aft, gd⟩ (.int .u8 b.toNat) := fun ρ w hρ _ => by
  have hu := ht.out
  subst hn
  have h0 : (0 : Int) ≤ (n : Int) := by omega
  simp [execOp, Instr.index, hρ _ _ hx, hρ _ _ hi, asIntOf, hu, underlying, hb, go_sem]
theorem wrU8 {n : Int} (h : 0 ≤ n ∧ n ≤ 255) : IntKind.wrap .u8 n = n := IntWalk.u8_in n h
end

/-- A block that begins with an array. -/
def arr {α : Type} (E : Enc α) (xs : List α) (r : List Value) (T : TypeId) : Obj := .cells (E.all xs ++ r).toArray T (0, 0)
section
variable {α : Type} {E : Enc α} {L : List Asn} {b : Nat} {xs : List α} {r : List Value} {T : TypeId}
theorem CellIn.arr [hb : BlkIn L b (KK.arr E xs r T)] {m i k : Nat} {x : α} {v : Value} (hm : E.m = m) (hx : xs[i]? = some x) (hv : (E.enc x)[k]? = some v) : CellIn L ⟨b, i * m + k, none⟩ v := fun h hs => by
  subst hm
  have h1 := hb.out h hs
  have hk : k < E.m := by rw [← E.len x]; exact (List.getElem?_eq_some_iff.1 hv).1
  have h2 := E.all_get xs i k x hx hk
  rw [hv] at h2
  have h3 := (List.getElem?_eq_some_iff.1 h2).1
  simp only [cellH, h1, KK.arr, Option.isSome_none, Bool.false_eq_true, if_false, List.getElem?_toArray]
  rw [List.getElem?_append_left h3, h2]
theorem CellIn.arr0 [hb : BlkIn L b (KK.arr E xs r T)] {m i : Nat} {x : α} {v : Value} (hm : E.m = m) (hx : xs[i]? = some x) (hv : (E.enc x)[0]? = some v) : CellIn L ⟨b, i * m, none⟩ v := CellIn.arr hm hx hv
theorem CellsIn.arr [hb : BlkIn L b (KK.arr E xs r T)] {m i : Nat} {x : α} (hm : E.m = m) (hx : xs[i]? = some x) : CellsIn L ⟨b, i * m, none⟩ (E.enc x) := fun h hs j v hv => CellIn.arr (E := E) hm hx hv h hs
theorem CellIn.arrT [hb : BlkIn L b (KK.arr E xs r T)] {n k : Nat} {v : Value} (hn : xs.length * E.m = n) (hv : r[k]? = some v) : CellIn L ⟨b, n + k, none⟩ v := fun h hs => by
  have h1 := hb.out h hs
  simp only [cellH, h1, KK.arr, Option.isSome_none, Bool.false_eq_true, if_false, List.getElem?_toArray]
  rw [List.getElem?_append_right (by rw [E.all_len, hn]; omega), E.all_len, hn, Nat.add_sub_cancel_left, hv]

theorem all_set (E : Enc α) : ∀ {xs : List α} {i : Nat} {x : α}, i < xs.length → E.all (xs.set i x) = splice (E.all xs) (i * E.m) (E.enc x)
  | [], i, x, h => by simp at h
  | y :: ys, 0, x, h => by
    unfold splice
    simp only [List.set_cons_zero, Enc.all, List.flatMap_cons, Nat.zero_mul, List.take_zero, List.nil_append, Nat.zero_add]
    rw [E.len x, ← E.len y, List.drop_left]
  | y :: ys, i + 1, x, h => by
    have ih := all_set E (xs := ys) (i := i) (x := x) (by simpa using h)
    have e1 : E.all (y :: ys) = E.enc y ++ E.all ys := by simp [Enc.all]
    have e2 : E.all ((y :: ys).set (i + 1) x) = E.enc y ++ E.all (ys.set i x) := by simp [Enc.all]
    rw [e2, ih, e1]
    unfold splice
    have h1 : (i + 1) * E.m = E.m + i * E.m := by rw [Nat.add_mul]; omega
    rw [h1, List.take_append, List.drop_append, E.len y]
    have t1 : (E.enc y).take (E.m + i * E.m) = E.enc y := List.take_of_length_le (by rw [E.len]; omega)
    have t2 : (E.enc y).drop (E.m + i * E.m + (E.enc x).length) = [] := List.drop_of_length_le (by rw [E.len]; omega)
    rw [t1, t2, Nat.add_sub_cancel_left, show E.m + i * E.m + (E.enc x).length - E.m = i * E.m + (E.enc x).length by omega]
    simp
end
section
variable {P : Program} {F : Fr} {L : List Asn} {dst : Option Tmp} {ty : TypeId} {pos : String} {aft : Array Edge} {gd : Option (Nat × Bool)}
theorem run_storeVar_off (P : Program) (w : World) (b off : Nat) (T t : TypeId) (old vs : List Value) (hb : hp w b = some (.cells old.toArray T (0, 0))) (hsz : (P.info? t).map (·.size) = some vs.length) (hl : off + vs.length ≤ old.length) (hv : vs.all (·.oneCell') = true) :
    (storeVar t ⟨b, off, none⟩ (.agg vs.toArray)).run P w = .ok () (w.setRow b (splice old off vs).toArray) := by
  have h3 : (sizeOf t).run P w = .ok vs.length w := run_sizeOf_of hsz
  have hst := run_storeCells_at P b off T vs 0 old.toArray w hb (by simpa using hl) (fun v h => by simpa using List.all_eq_true.1 hv v h)
  simp only [Nat.add_zero] at hst
  have e : (Value.agg vs.toArray).cells = vs.toArray := rfl
  unfold storeVar
  rw [Sem.run_bind, h3]
  simp only [Result.andThen_ok, e, List.size_toArray, ne_eq, not_true_eq_false, if_false]
  rw [hst]; simp [splice]
theorem Eff.storeArr {α : Type} {E : Enc α} {t n m i : Nat} [h1 : Agg P t n] {x y : Operand} {b : Nat} {xs : List α} {z' : α} {cs' : List Value} {r : List Value} {T : TypeId} {f : Obj → List Asn}
    (hx : ev F x = some (.pointer (some ⟨b, i * m, none⟩))) (hy : ev F y = some (.agg cs'.toArray)) [hb : BlkH L b (arr E xs r T) f] (hm : E.m = m) (hn : n = m) (hi : i < xs.length) (hz : cs' = E.enc z') :
    Eff P F L ⟨dst, .store t x y, ty, pos, aft, gd⟩ (fun u M => u = undef ∧ M = f (arr E (xs.set i z') r T)) := Eff.of_skip fun ρ w hρ hs => by
  subst hm; subst hz; subst hn
  obtain ⟨R, p1, p2⟩ := (hb.out (arr E (xs.set i z') r T)).perm
  have hs1 := hs.perm p1
  have hbw : hp w b = some (.cells (E.all xs ++ r).toArray T (0, 0)) := BlkIn.head.out _ hs1
  have hle : i * E.m + E.m ≤ (E.all xs).length := by
    rw [E.all_len]
    have : (i + 1) * E.m ≤ xs.length * E.m := Nat.mul_le_mul_right _ hi
    rw [Nat.add_mul] at this; omega
  have hst := run_storeVar_off P w b (i * E.m) T t (E.all xs ++ r) (E.enc z') hbw (by rw [h1.size, E.len]) (by rw [E.len, List.length_append]; omega) (List.all_eq_true.2 fun v hv => E.one z' v hv)
  have e2 : splice (E.all xs ++ r) (i * E.m) (E.enc z') = E.all (xs.set i z') ++ r := by
    rw [all_set E hi]
    unfold splice
    rw [E.len, List.take_append_of_le_length (by omega), List.drop_append_of_le_length (by omega)]
    simp
  rw [e2] at hst
  refine ⟨w.setRow b (E.all (xs.set i z') ++ r).toArray, f (arr E (xs.set i z') r T), ?_, ⟨rfl, rfl⟩, rfl, ?_⟩
  · have he : execOp ρ ⟨dst, .store t x y, ty, pos, aft, gd⟩ = (do Instr.storeAt t (ρ x) (ρ y); pure .skip) := rfl
    rw [he, Sem.run_bind, hρ _ _ hx, hρ _ _ hy]
    have : (Instr.storeAt t (.pointer (some ⟨b, i * E.m, none⟩)) (.agg (E.enc z').toArray)).run P w = .ok () (w.setRow b (E.all (xs.set i z') ++ r).toArray) := by
      simp only [Instr.storeAt, Instr.sureAddr, Sem.run_bind, Sem.run_pure, Result.andThen_ok]
      exact hst
    rw [this]; rfl
  · rw [hp_setRow _ _ _ _ _ _ hbw]
    exact Sat.perm p2.symm hs1.upd
theorem Eff.storeArrT {α : Type} {E : Enc α} {t n k : Nat} [h1 : One P t] {x y : Operand} {b : Nat} {v : Value} {xs : List α} {r r' : List Value} {T : TypeId} {f : Obj → List Asn}
    (hx : ev F x = some (.pointer (some ⟨b, n + k, none⟩))) (hy : ev F y = some v) (hv : v.oneCell' = true) [hb : BlkH L b (arr E xs r T) f] (hn : xs.length * E.m = n) (hset : SetAt v r k r') :
    Eff P F L ⟨dst, .store t x y, ty, pos, aft, gd⟩ (fun u M => u = undef ∧ M = f (arr E xs r' T)) := by
  have key : ∀ {l : List Value} {q : Nat}, l.length = q → SetAt v (l ++ r) (q + k) (l ++ r') := by
    intro l
    induction l with
    | nil => intro q hq; subst hq; simpa using hset
    | cons z l ih => intro q hq; subst hq; simp only [List.length_cons, List.cons_append]; rw [show l.length + 1 + k = (l.length + k) + 1 by omega]; exact .tail (ih rfl)
  exact Eff.store (p := ⟨b, n + k, none⟩) hx hy hv rfl rfl (key (by rw [E.all_len, hn])) (hb.out _)
end
/-- As 'J.cut', for what follows behind so many items. -/
theorem J.cut1 {c : Cx} {F : Fr} {L : List Asn} {k : List Item} {ι : Type} {x : Item} (good : ι → Prop) (I : ι → Fr) (F0 : Fr) (H : ι → List Asn) (hF0 : Picks F F0) (h1 : ∀ i, good i → J c (I i ++ F0) (H i) k)
    (h2 : (∀ i, good i → J c (I i ++ F0) (H i) k) → J c F L (x :: k)) : J c F L (x :: k) := h2 h1
theorem J.cut2 {c : Cx} {F : Fr} {L : List Asn} {k : List Item} {ι : Type} {x y : Item} (good : ι → Prop) (I : ι → Fr) (F0 : Fr) (H : ι → List Asn) (hF0 : Picks F F0) (h1 : ∀ i, good i → J c (I i ++ F0) (H i) k)
    (h2 : (∀ i, good i → J c (I i ++ F0) (H i) k) → J c F L (x :: y :: k)) : J c F L (x :: y :: k) := h2 h1
theorem J.cut3 {c : Cx} {F : Fr} {L : List Asn} {k : List Item} {ι : Type} {x y z : Item} (good : ι → Prop) (I : ι → Fr) (F0 : Fr) (H : ι → List Asn) (hF0 : Picks F F0) (h1 : ∀ i, good i → J c (I i ++ F0) (H i) k)
    (h2 : (∀ i, good i → J c (I i ++ F0) (H i) k) → J c F L (x :: y :: z :: k)) : J c F L (x :: y :: z :: k) := h2 h1
theorem sl_take {α : Type} {E : Enc α} {a : Option Addr} {cap : Nat} {xs : List α} {h : Hp} (n : Nat) (hs : sl E a cap xs h) : sl E a cap (xs.take n) h := by
  rcases sl_iff.1 hs with ⟨h1, h2, h3⟩ | ⟨b, sp, h1, h2, h3, h4, h5⟩
  · exact sl_iff.2 (.inl ⟨h1, h2, by rw [h3]; simp⟩)
  · refine sl_iff.2 (.inr ⟨b, E.all (xs.drop n) ++ sp, h1, by rw [List.length_take]; omega, h3, ?_, ?_⟩)
    · rw [List.length_append, E.all_len, h4, ← Nat.add_mul, List.length_drop, List.length_take]; congr 1; omega
    · rw [← List.append_assoc, ← E.all_append, List.take_append_drop]; exact h5
theorem cut_sl {α : Type} {E : Enc α} {a : Option Addr} {cap : Nat} {xs : List α} {L R : List Asn} [p : SlP E a cap L xs R] {h : Hp} (n : Nat) (s : Sat h L) : Sat h (sl E a cap (xs.take n) :: R) :=
  (s.perm p.out).cons_imp (fun _ h => sl_take n h) (fun _ h => h)
end Go.KK

/- The text K26. -/
/-!
  A range over a function: code in a round's frame, marks among the deferred calls.
-/
set_option linter.unusedVariables false
set_option linter.unusedSimpArgs false
namespace Go.KK
def fen : Option Nat → Fence
  | none => Fence.wide
  | some l => Fence.wide.inRound l
theorem fen_fn (ro : Option Nat) (f : FuncId) : (fen ro).fn f := by cases ro <;> trivial
theorem fen_round (ro : Option Nat) : (fen ro).round = ro := by cases ro <;> rfl
theorem fen_dep (ro : Option Nat) : (fen ro).depth = none := by cases ro <;> rfl
theorem fen_calls {ro : Option Nat} {P : Program} {f : FuncId} {args : Array Value} {w : World} {R : Ending → World → Prop} (h : Calls P f args w R) : CallsIn (fen ro) 0 P f args w R := by
  have h1 : CallsIn Fence.wide 0 P f args w R := callsIn_wide.2 h
  cases ro
  · exact h1
  · exact h1
theorem fen_rows {ro : Option Nat} {P : Program} {row : String} {args : Array Value} {w : World} {R : Value → World → Prop} (h : Rows P row args w R) : Go.RowsIn (fen ro) 0 P row args w R := by
  have h1 : Go.RowsIn Fence.wide 0 P row args w R := fun c cs _ => let ⟨v, w', r, s⟩ := h c cs; ⟨v, w', r, stepsIn_wide.2 s⟩
  cases ro
  · exact h1
  · exact h1
theorem oper_in {ro : Option Nat} {P : Program} {o : Oper} {a : Act} {w : World} {next : Act → World → Prop} {Qx : Exit → Act → World → Prop} (ho : ∀ c, o.op ≠ .defer c) (h : o.wp P a w next Qx) : o.wpIn (fen ro) 0 P a w next Qx := by
  refine ⟨fun f _ => fen_fn ro f, ?_⟩
  rw [Oper.semAt_eq _ _ _ ho]
  unfold Oper.wp at h
  revert h
  generalize (execOp a.eval o).run P w = r
  intro h
  have hd : (fen ro).depth.isSome = true → 1 ≤ 0 := by rw [fen_dep]; intro h; cases h
  cases r with
  | ok x w' =>
    cases x <;> simp only [Oper.upon] at h <;> simp only [Oper.uponIn] <;> first | exact h | exact ⟨hd, fen_calls h⟩ | exact ⟨hd, fen_rows h⟩ | exact h.elim
  | halt x w' => cases x <;> simp only [Oper.upon] at h <;> simp only [Oper.uponIn] <;> first | exact h | exact h.elim

structure OkD (n : Nat) (ds : List Deferred) (F : Fr) (a : Act) : Prop where
  size : a.tmps.size = n
  defs : a.defers = ds
  val : ∀ t v, get F t = some v → a.tmps.getD t undef = v
section
variable {n : Nat} {ds : List Deferred} {F : Fr} {a : Act}
theorem OkD.ok (h : OkD n ds F a) : OkF n F { a with defers := [] } := ⟨h.size, rfl, h.val⟩
theorem OkF.okD (h : OkF n F a) : OkD n [] F a := ⟨h.size, h.nodef, h.val⟩
theorem OkD.put {d : Nat} {v : Value} (h : OkD n ds F a) (hd : Nat.blt d n = true) : OkD n ds ((d, v) :: F) (a.put (some d) v) :=
  have h1 := h.ok.put (v := v) hd
  ⟨h1.size, h.defs, h1.val⟩
theorem OkD.none {v : Value} (h : OkD n ds F a) : OkD n ds F (a.put none v) := h
theorem OkD.ev (h : OkD n ds F a) : ∀ x v, KK.ev F x = some v → a.eval x = v := fun x v hx => by
  have := h.ok.ev x v hx
  cases x <;> exact this
theorem OkD.picks {G : Fr} (h : OkD n ds F a) (hp : Picks F G) : OkD n ds G a := ⟨h.size, h.defs, (h.ok.picks hp).val⟩
end

structure Rx where
  P : Program
  n : Nat
  ro : Option Nat
  w0 : World
abbrev RP := Exit → List Deferred → Fr → List Asn → Prop
def PostR (c : Rx) (R : RP) : Exit → Act → World → Prop := fun e a w => ∃ ds F L, R e ds F L ∧ OkD c.n ds F a ∧ Sat (hp w) L ∧ env w = env c.w0
def JR (c : Rx) (R : RP) (ds : List Deferred) (F : Fr) (L : List Asn) (x : Code) : Prop :=
  ∀ a w, OkD c.n ds F a → Sat (hp w) L → env w = env c.w0 → x.wpIn (fen c.ro) 0 c.P (PostR c R) a w
/-- The operations 'rest' of the region 'ops' are still to do. -/
def RO (c : Rx) (R : RP) (ops : List Oper) (ds : List Deferred) (F : Fr) (L : List Asn) (rest : List Oper) : Prop :=
  ∀ a w, OkD c.n ds F a → Sat (hp w) L → env w = env c.w0 → wpListIn (fen c.ro) 0 c.P ops.toArray (PostR c R) rest a w
def noDefer (o : Oper) : Bool := match o.op with | .defer _ => false | _ => true
theorem noDefer_ok {o : Oper} (h : noDefer o = true) : ∀ c, o.op ≠ .defer c := fun c e => by unfold noDefer at h; rw [e] at h; cases h
section rules
variable {c : Rx} {R : RP} {ds : List Deferred} {F : Fr} {L : List Asn} {ops rest : List Oper} {o : Oper}
theorem PostR.of {e : Exit} {a : Act} {w : World} (h : R e ds F L) (hF : OkD c.n ds F a) (hs : Sat (hp w) L) (he : env w = env c.w0) : PostR c R e a w := ⟨ds, F, L, h, hF, hs, he⟩
theorem JR.imp {M : List Asn} {x : Code} (hL : ∀ h, Sat h L → Sat h M) (h : JR c R ds F M x) : JR c R ds F L x := fun a w hF hs he => h a w hF (hL _ hs) he
theorem JR.fact {x : Code} {p : Prop} (hp : ∀ h, Sat h L → p) (h : p → JR c R ds F L x) : JR c R ds F L x := fun a w hF hs he => h (hp _ hs) a w hF hs he
theorem JR.skip (h : R .normal ds F L) : JR c R ds F L .skip := fun a w hF hs he => wpIn_skip (.of h hF hs he)
theorem JR.ret (h : R .ret ds F L) : JR c R ds F L .ret := fun a w hF hs he => wpIn_ret (.of h hF hs he)
theorem JR.exit {id : Nat} (h : R (.exit id) ds F L) : JR c R ds F L (.exit id) := fun a w hF hs he => wpIn_exit (.of h hF hs he)
def thenR (c : Rx) (R : RP) (y : Code) : RP := fun e ds F L => match e with | .normal => JR c R ds F L y | e => R e ds F L
theorem JR.seq {x y : Code} (h : JR c (thenR c R y) ds F L x) : JR c R ds F L (.seq x y) := fun a w hF hs he =>
  wpIn_seq (wpIn_mono (h a w hF hs he) fun e a' w' ⟨ds', F', L', hr, hF', hs', he'⟩ => by
    cases e <;> first | exact hr a' w' hF' hs' he' | exact ⟨ds', F', L', hr, hF', hs', he'⟩)
def blockR (id : Nat) (R : RP) : RP := fun e ds F L => match e with | .exit i => if i = id then R .normal ds F L else R (.exit i) ds F L | e => R e ds F L
theorem JR.block {id : Nat} {x : Code} (h : JR c (blockR id R) ds F L x) : JR c R ds F L (.block id x) := fun a w hF hs he =>
  wpIn_block (wpIn_mono (h a w hF hs he) fun e a' w' ⟨ds', F', L', hr, hF', hs', he'⟩ => by
    cases e with
    | exit i =>
      simp only [blockR] at hr
      simp only [Exit.inBlock]
      split
      · rename_i e; rw [if_pos e] at hr; exact ⟨ds', F', L', hr, hF', hs', he'⟩
      · rename_i e; rw [if_neg e] at hr; exact ⟨ds', F', L', hr, hF', hs', he'⟩
    | _ => exact ⟨ds', F', L', hr, hF', hs', he'⟩)
theorem JR.cond {x : Operand} {a b : Code} {t : Bool} (hv : ev F x = some (.bool t)) (h1 : t = true → JR c R ds F L a) (h2 : t = false → JR c R ds F L b) : JR c R ds F L (.cond x a b) := fun ac w hF hs he =>
  wpIn_cond_split (hF.ev _ _ hv) (fun e => h1 e ac w hF hs he) (fun e => h2 e ac w hF hs he)
theorem JR.region {id : Nat} {ops : Array Oper} {l : List Oper} (hl : ops = l.toArray) (h : RO c R l ds F L l) : JR c R ds F L (.region id ops false) := fun a w hF hs he => by
  subst hl
  exact wpIn_region_lit (h a w hF hs he)
theorem RO.nil (h : R .normal ds F L) : RO c R ops ds F L [] := fun a w hF hs he => wpListIn_nil (.of h hF hs he)
theorem RO.eff {d : Nat} {Q : Value → List Asn → Prop} (hw : o.guard = none) (hd : o.dst = some d) (hn : Nat.blt d c.n = true) (hnd : noDefer o = true) (he : Eff c.P F L o Q)
    (h : ∀ v M, Q v M → RO c R ops ds ((d, v) :: F) M rest) : RO c R ops ds F L (o :: rest) := fun a w hF hs hv =>
  wpListIn_plain hw fun K hK => oper_in (noDefer_ok hnd) (he a w trivial hF.ev hs _ _ fun v w' M hq hs' hv' => by
    rw [hd]
    exact hK _ _ (h v M hq _ _ (hF.put hn) hs' (hv'.trans hv)))
theorem RO.effN {Q : Value → List Asn → Prop} (hw : o.guard = none) (hd : o.dst = none) (hnd : noDefer o = true) (he : Eff c.P F L o Q)
    (h : ∀ v M, Q v M → RO c R ops ds F M rest) : RO c R ops ds F L (o :: rest) := fun a w hF hs hv =>
  wpListIn_plain hw fun K hK => oper_in (noDefer_ok hnd) (he a w trivial hF.ev hs _ _ fun v w' M hq hs' hv' => by
    rw [hd]
    exact hK _ _ (h v M hq _ _ hF.none hs' (hv'.trans hv)))
theorem RO.pur {d : Nat} {v : Value} (hw : o.guard = none) (hd : o.dst = some d) (hn : Nat.blt d c.n = true) (hnd : noDefer o = true) (hp : Pur c.P F L o v)
    (h : RO c R ops ds ((d, v) :: F) L rest) : RO c R ops ds F L (o :: rest) := RO.eff hw hd hn hnd hp.eff (fun _ _ ⟨e1, e2⟩ => by subst e1; subst e2; exact h)

/-- A loop that counts a slot down. -/
theorem JR.loop {x : Code} {ι : Type} (good : ι → Prop) (I : ι → Fr) (H : ι → List Asn) (μ : ι → Nat) (m : Act → Nat) (hm : ∀ i a, OkD c.n ds (I i) a → m a = μ i) (i0 : ι)
    (hF : Picks F (I i0)) (hL : ∀ h, Sat h L → Sat h (H i0)) (hg : good i0)
    (body : ∀ i, good i → JR c (fun e ds' F' L' => match e with | .normal => ds' = ds ∧ ∃ j, good j ∧ μ j < μ i ∧ Picks F' (I j) ∧ (∀ h, Sat h L' → Sat h (H j)) | e => R e ds' F' L') ds (I i) (H i) x) : JR c R ds F L (.loop x) := fun a w hok hs he =>
  wpIn_loop (fun a w => ∃ i, good i ∧ OkD c.n ds (I i) a ∧ Sat (hp w) (H i) ∧ env w = env c.w0) (fun a _ => m a) ⟨i0, hg, hok.picks hF, hL _ hs, he⟩ fun a w ⟨i, hgi, hi, hsi, hei⟩ =>
    wpIn_mono (body i hgi a w hi hsi hei) fun e a' w' ⟨ds', F', L', hr, hF', hs', he'⟩ => by
      cases e with
      | normal =>
        obtain ⟨e1, j, hj, hlt, hpk, hl⟩ := hr
        subst e1
        have hj' : OkD c.n ds' (I j) a' := OkD.picks hF' hpk
        exact ⟨⟨j, hj, hj', hl _ hs', he'⟩, by rw [hm j a' hj', hm i a hi]; exact hlt⟩
      | _ => exact ⟨ds', F', L', hr, hF', hs', he'⟩
end rules

section yield
variable {c : Rx} {R : RP} {ds : List Deferred} {F : Fr} {L : List Asn} {ops rest : List Oper}
theorem RO.yield {d t l : Nat} {ty : TypeId} {pos : String} {aft : Array Edge} {xs : List Operand} {vs : List Value} {tys : Array TypeId} {Q : Value → List Asn → Prop} (hro : c.ro = none)
    (ht : get F t = some (.func (.yield l) #[] #[])) (hv : evL F xs = some vs) (hn : Nat.blt d c.n = true)
    (hy : ∀ w, Sat (hp w) L → env w = env c.w0 → YieldAt Fence.wide 0 c.P l vs.toArray w (fun e w' => ∃ v M, e = .returned v ∧ Q v M ∧ Sat (hp w') M ∧ env w' = env c.w0))
    (h : ∀ v M, Q v M → RO c R ops ds ((d, v) :: F) M rest) : RO c R ops ds F L (⟨some d, .call ⟨.value (.tmp t), xs.toArray, tys⟩, ty, pos, aft, none⟩ :: rest) := fun a w hF hs he =>
  wpListIn_plain rfl fun K hK => by
    refine ⟨fun f _ => fen_fn _ f, ?_⟩
    rw [Oper.semAt_eq _ _ _ (fun c e => by cases e)]
    have hargs : (xs.toArray.map a.eval) = vs.toArray := by
      have := evL_ok (hF.ev) hv
      simp [this]
    have hfe : a.eval (.tmp t) = .func (.yield l) #[] #[] := hF.ev (.tmp t) _ ht
    have hfe' : a.tmps[t]?.getD undef = .func (.yield l) #[] #[] := by simpa [Act.eval] using hfe
    obtain ⟨fn, tmps, assign, body, hrun, hR⟩ := hy w hs he
    have hr : (execOp a.eval ⟨some d, .call ⟨.value (.tmp t), xs.toArray, tys⟩, ty, pos, aft, none⟩).run c.P w = .ok (.round l fn tmps assign body) w := by
      simp [execOp, resolve, hargs, hfe', Deferred.ofValue, invoke, go_sem, hrun]
    rw [hr, Oper.uponIn_round]
    refine ⟨(by rw [fen_dep]; intro h; cases h), ?_⟩
    rw [hro]
    refine RoundIn.mono hR fun e w' ⟨v, M, e1, hq, hs', he'⟩ => ?_
    subst e1
    exact hK _ _ (h v M hq _ _ (hF.put hn) hs' he')
end yield

theorem hp_alloc (w : World) (o : Obj) : hp (w.alloc o) = Hp.upd (hp w) w.heap.size o := hp_push w o
theorem hp_putObj {w : World} {b : Nat} {o o' : Obj} (h : hp w b = some o) : hp (w.putObj b o') = Hp.upd (hp w) b o' := by
  have hb : b < w.heap.size := by
    rcases Nat.lt_or_ge b w.heap.size with h1 | h1
    · exact h1
    · unfold hp at h; rw [Array.getElem?_eq_none h1] at h; cases h
  funext x
  unfold hp Hp.upd World.putObj
  by_cases e : x = b
  · subst e; simp [hb]
  · simp [e, Array.getElem?_setIfInBounds_ne (Ne.symm e)]
def mark (D : Nat) : Deferred := { target := .collected D, args := #[] }
def dfr : Obj := .deferred (some [])

theorem zip2 (t1 t2 : Nat) (u1 u2 : Value) (tmps : Array Value) : ((#[t1, t2] : Array Tmp).zip #[u1, u2]).foldl (fun tmps (t, a) => tmps.setIfInBounds t a) tmps = (tmps.setIfInBounds t1 u1).setIfInBounds t2 u2 := by
  simp

/-- 'for x, y := range seq { body }': 'H i' holds where i elements are still to come (the next one is that of i - 1); 'X' where the body has returned. -/
theorem JR.rangeFunc2 {c : Rx} {R : RP} (hro : c.ro = none) {g : Operand} {t1 t2 : Nat} {assign body : Code} {F : Fr} {L : List Asn} {it : Nat} {cap : Array Value}
    (hg : ev F g = some (.func (.func it) #[] cap)) (eg : ∀ args w, (callFunc it args).run c.P w = .ok (.enter it args) w) (h1 : Nat.blt t1 c.n = true) (h2 : Nat.blt t2 c.n = true)
    (N : Nat) (G : Nat → Prop) (H : Nat → List Asn) (X : List Asn → Prop) (v1 v2 : Nat → Value) (F1 : Nat → Fr) (hL : ∀ h, Sat h L → Sat h (H N)) (hG : G N)
    (hit : ∀ (l : Nat) (A B : Asn) (Kx : List Asn → Prop),
      (∀ i, i < N → G (i + 1) → ∀ w, Sat (hp w) (A :: B :: H (i + 1)) → env w = env c.w0 → YieldAt Fence.wide 0 c.P l #[v1 i, v2 i] w (fun e w' => env w' = env c.w0 ∧ ((e = .returned (.bool true) ∧ G i ∧ Sat (hp w') (A :: B :: H i)) ∨ (e = .returned (.bool false) ∧ ∃ M, Kx M ∧ Sat (hp w') M)))) →
      ∀ w, G N → Sat (hp w) (A :: B :: H N) → env w = env c.w0 → CallsIn Fence.wide 0 c.P it (#[.func (.yield l) #[] #[]] ++ cap) w (fun e w' => (∃ v, e = .returned v) ∧ env w' = env c.w0 ∧ ((G 0 ∧ Sat (hp w') (A :: B :: H 0)) ∨ ∃ M, Kx M ∧ Sat (hp w') M)))
    (hassign : ∀ (l i : Nat) (M : List Asn), JR ⟨c.P, c.n, some l, c.w0⟩ (fun e ds F' M' => e = .normal ∧ ds = [] ∧ M' = M ∧ Picks F' (F1 i)) [] ((t2, v2 i) :: (t1, v1 i) :: F) M assign)
    (hbody : ∀ (l i : Nat) (A B : Asn), i < N → G (i + 1) → JR ⟨c.P, c.n, some l, c.w0⟩ (fun e ds F' M => ∃ M', (∀ h, Sat h M → Sat h (A :: B :: M')) ∧ ((e = .normal ∧ G i ∧ M' = H i) ∨ (e = .ret ∧ X M'))) [] (F1 i) (A :: B :: H (i + 1)) body)
    (hdone : ∀ D A, G 0 → R .normal [mark D] F (A :: blk D dfr :: H 0)) (hstop : ∀ D A M, X M → R .ret [mark D] F (A :: blk D dfr :: M)) :
    JR c R [] F L (.rangeFunc g #[t1, t2] assign body) := by
  intro a w hF hs he
  rw [hro]
  refine wpIn_rangeFunc ?_
  intro fn hfn
  obtain ⟨rec, hrec⟩ : ∃ rec : LoopState → Option Code → Loop, rec = fun st pe => { state := st, pending := pe, fn, tmps := a.tmps, params := #[t1, t2], assign, body, defers := w.heap.size } := ⟨_, rfl⟩
  obtain ⟨W1, hW1⟩ : ∃ W1, (w.alloc (.deferred (some []))).alloc (.loop (rec .ready none)) = W1 := ⟨_, rfl⟩
  have hs1 : Sat (hp W1) (blk (w.heap.size + 1) (.loop (rec .ready none)) :: blk w.heap.size dfr :: H N) := by
    rw [← hW1, hp_alloc, World.size_alloc, hp_alloc]
    refine Sat.new ?_ (Sat.new (hp_size w) (hL _ hs))
    unfold Hp.upd
    rw [if_neg (by omega)]
    unfold hp; rw [Array.getElem?_eq_none (by omega)]
  have he1 : env W1 = env c.w0 := by rw [← hW1]; exact he
  refine ⟨w.heap.size + 1, [mark w.heap.size], W1, { target := .fn (.func it) cap, args := #[.func (.yield (w.heap.size + 1)) #[] #[]] }, W1, it,
    #[.func (.yield (w.heap.size + 1)) #[] #[]] ++ cap, W1, ?_, ?_, fun f' _ => fen_fn none f', ?_, fun h => (by cases h), ?_⟩
  · rw [← hW1, hrec]; exact run_enterLoop_outer _ _ _ _ _
  · simp only [resolve, hF.ev _ _ hg]
    simp [go_sem]
  · simp [invoke, go_sem, eg]
  generalize w.heap.size = D at *
  have hrr := fun (W : World) (M : List Asn) (o : Obj) (h : Sat (hp W) (blk (D + 1) o :: M)) => (BlkIn.head (L := M) (b := D + 1) (o := o)).out (hp W) h
  refine CallsIn.mono (hit (D + 1) (blk (D + 1) (.loop (rec .ready none))) (blk D dfr) (fun M => ∃ M', X M' ∧ M = blk (D + 1) (.loop (rec .done (some .ret))) :: blk D dfr :: M') ?_ W1 hG hs1 he1) ?_
  · intro i hi hgi W hsW heW
    have hl := hrr _ _ _ hsW
    have hy := run_yield (P := c.P) (args := #[v1 i, v2 i]) (w := W) hl (by rw [hrec]; rfl)
    rw [hrec] at hy
    refine ⟨fn, _, assign, body, hy, roundIn_of_wpIn trivial ?_⟩
    rw [zip2]
    have hok : OkD c.n [] ((t2, v2 i) :: (t1, v1 i) :: F) { tmps := (a.tmps.setIfInBounds t1 (v1 i)).setIfInBounds t2 (v2 i), defers := [] } :=
      OkD.put (a := { tmps := a.tmps.setIfInBounds t1 (v1 i), defers := [] }) (OkD.put (a := { tmps := a.tmps, defers := [] }) ⟨hF.size, rfl, hF.val⟩ h1) h2
    refine wpIn_mono (hassign (D + 1) i _ _ W hok hsW heW) ?_
    rintro e a1 w1 ⟨ds1, F1', M1, ⟨e1, e2, e3, hpk⟩, hok1, hs1', he1'⟩
    subst e1; subst e2; subst e3
    have hl1 := hrr _ _ _ hs1'
    have hbr := run_beginRound (P := c.P) (w := w1) hl1 (by rw [hrec])
    refine ⟨_, hbr, ?_⟩
    have hs2 := Sat.upd (o' := .loop { rec .ready none with state := .busy }) hs1'
    rw [← hp_putObj hl1] at hs2
    refine wpIn_mono (hbody (D + 1) i _ _ hi hgi a1 _ (hok1.picks hpk) hs2 he1') ?_
    rintro e a2 w2 ⟨ds2, F2, M2, ⟨M', hM, hor⟩, hok2, hs3, he3⟩
    have hs4 := hM _ hs3
    have hl4 := hrr _ _ _ hs4
    have fin : ∀ (jump : Option Code), (Instr.endRound (D + 1) jump).run c.P w2 = .ok (.bool jump.isNone) (w2.putObj (D + 1) (.loop (rec (if jump.isNone then .ready else .done) jump))) := fun jump => by
      have := run_endRound (P := c.P) jump hl4
      rw [hrec] at this ⊢
      exact this
    rcases hor with ⟨e1, hgi', e2⟩ | ⟨e1, hX⟩
    · subst e1; subst e2
      refine ⟨_, _, fin none, he3, .inl ⟨rfl, hgi', ?_⟩⟩
      have hs5 := Sat.upd (o' := .loop (rec .ready none)) hs4
      rw [← hp_putObj hl4] at hs5
      exact hs5
    · subst e1
      refine ⟨_, _, fin (some .ret), he3, .inr ⟨rfl, _, ⟨M', hX, rfl⟩, ?_⟩⟩
      have hs5 := Sat.upd (o' := .loop (rec .done (some .ret))) hs4
      rw [← hp_putObj hl4] at hs5
      exact hs5
  · rintro e W2 ⟨⟨v, rfl⟩, heW, hor⟩
    rcases hor with ⟨hg0, hsW⟩ | ⟨M, ⟨M', hX, rfl⟩, hsW⟩
    · have hl := hrr _ _ _ hsW
      refine ⟨none, _, by have := run_endLoop (P := c.P) hl (by rw [hrec]; simp); rw [hrec] at this; exact this, ?_⟩
      have hs5 := Sat.upd (o' := .loop { rec .ready none with state := .exhausted }) hsW
      rw [← hp_putObj hl, hrec] at hs5
      exact ⟨_, _, _, hdone D _ hg0, ⟨hF.size, by simp [hF.defs], hF.val⟩, hs5, heW⟩
    · have hl := hrr _ _ _ hsW
      refine ⟨some .ret, _, by have := run_endLoop (P := c.P) hl (by rw [hrec]; simp); rw [hrec] at this; exact this, ?_⟩
      have hs5 := Sat.upd (o' := .loop { rec .done (some .ret) with state := .exhausted }) hsW
      rw [← hp_putObj hl, hrec] at hs5
      exact wpIn_ret ⟨_, _, _, hstop D _ M' hX, ⟨hF.size, by simp [hF.defs], hF.val⟩, hs5, heW⟩

/-- Where the function ends under a mark. -/
def endR (c : Cx) : RP := fun e ds F L => (e = .ret ∨ e = .normal) ∧ ∃ D A M vs, ds = [mark D] ∧ L = A :: blk D dfr :: M ∧ ResL c.P F M c.res vs ∧ c.Q (tupV vs) M
theorem J.tail {c : Cx} {F : Fr} {L : List Asn} {x y : Code} (h : ∀ w0, JR ⟨c.P, c.n, none, w0⟩ (thenR ⟨c.P, c.n, none, w0⟩ (endR c) y) [] F L x) : J c F L [.code x, .code y] := by
  intro a w hF hs fn hf hr cs
  have h1 := h w a w hF.okD hs rfl
  have fin : ∀ (e : Exit) (a' : Act) (w' : World) (m : Machine), PostR ⟨c.P, c.n, none, w⟩ (endR c) e a' w' → ArrivesIn (Machine.fenced c.P Fence.wide) c.P m (bse c.f) [] cs e a' w' →
      ∃ (v : Value) (L' : List Asn) (w' : World) (fr : Frame), c.Q v L' ∧ Sat (hp w') L' ∧ env w' = env w ∧ Steps c.P m (lone fr cs w') ∧ fr.fn = c.f ∧ fr.leaving c.P w' (.returned v) := by
    rintro e a' w' m ⟨ds, F', L', ⟨hE, D, A, M, vs, e1, e2, hv, hq⟩, hok, hs', he'⟩ harr
    subst e1; subst e2
    have hk : hp w' D = some dfr := (BlkIn.head (L := M) (b := D) (o := dfr)).out (hp w') hs'.tail
    have ht := run_takeDeferred (P := c.P) (w := w') (b := D) (ds := []) hk
    have hs2 : Sat (hp (w'.putObj D (.deferred none))) M := by
      have := Sat.upd (o' := .deferred none) hs'.tail
      rw [← hp_putObj hk] at this
      exact this.tail
    have key : ∀ todo, Steps c.P m (lone { (bse c.f).atR a' todo with mode := .returning } cs w') → ∃ (v : Value) (L' : List Asn) (w' : World) (fr : Frame), c.Q v L' ∧ Sat (hp w') L' ∧ env w' = env w ∧ Steps c.P m (lone fr cs w') ∧ fr.fn = c.f ∧ fr.leaving c.P w' (.returned v) := fun todo hst => by
      refine ⟨tupV vs, M, _, _, hq, hs2, he', hst.trans (.one (step_collected (d := mark D) (ds := []) (by simp) (by simpa [Frame.atR] using hok.defs) rfl ht)), rfl, ?_⟩
      exact ⟨rfl, rfl, rfl, fn, hf, run_resultsC fn c.P _ a'.tmps F' M hs2 c.res vs hr hok.val hv⟩
    rcases hE with rfl | rfl
    · obtain ⟨todo, hst⟩ := harr.1 rfl
      exact key todo (stepsIn_wide.1 hst)
    · exact key [] ((stepsIn_wide.1 harr).trans (.one (stepR_end rfl)))
  obtain ⟨e, a', w', hq, harr⟩ := h1 (bse c.f) [.code y] cs rfl trivial (room_wide _)
  have hst0 : lone ((bse c.f).at a [.code x, .code y]) cs w = lone ((bse c.f).atR a [.code x, .code y]) cs w := rfl
  rw [hst0]
  obtain ⟨ds, F', L', hR, hok, hs', he'⟩ := hq
  cases e with
  | normal =>
    obtain ⟨e2, a2, w2, hq2, harr2⟩ := hR a' w' hok hs' he' (bse c.f) [] cs rfl trivial (room_wide _)
    exact fin e2 a2 w2 _ hq2 (.of_steps harr harr2)
  | ret =>
    refine fin .ret a' w' _ ⟨ds, F', L', hR, hok, hs', he'⟩ ?_
    exact ⟨harr.1, fun h => by cases h⟩
  | exit i => rcases hR.1 with h | h <;> cases h
  | goto i => rcases hR.1 with h | h <;> cases h
  | panic i => rcases hR.1 with h | h <;> cases h
  | outgrown => rcases hR.1 with h | h <;> cases h

/-- A function of a fence from its body, where it ends without deferred calls and results. -/
theorem JR.calls {P : Program} {f : FuncId} {fn : Func} {b : Option Code} {args : List Value} {L : List Asn} {w w0 : World} {n : Nat} {X : List Asn → Prop}
    (hf : P.funcs[f]? = some fn) (hn : fn.ntmps = n) (hr : fn.results = #[]) (hb : fn.body = b) (hz : b.isSome = true) (hlen : Nat.ble args.length n = true)
    (h : JR ⟨P, n, none, w0⟩ (fun e ds F M => (e = .ret ∨ e = .normal) ∧ ds = [] ∧ X M) [] (argF 0 args) L (b.getD .skip)) (hs : Sat (hp w) L) (he : env w = env w0) :
    CallsIn Fence.wide 0 P f args.toArray w (fun e w' => (∃ v, e = .returned v) ∧ env w' = env w0 ∧ ∃ M, X M ∧ Sat (hp w') M) := by
  cases b with
  | none => simp at hz
  | some c =>
  have hlen' : args.length ≤ n := Nat.le_of_ble_eq_true hlen
  refine callsIn_of_wp hf hb trivial ?_ rfl
  refine wpIn_mono (h { tmps := args.toArray ++ Array.replicate (fn.ntmps - args.toArray.size) undef, defers := [] } w ⟨by simp [hn]; omega, rfl, fun t v hv => by
      have h1 := get_argF args 0 t v hv
      simp at h1
      obtain ⟨h2, h3⟩ := List.getElem?_eq_some_iff.1 h1
      simp [Array.getD_eq_getD_getElem?, Array.getElem?_append, h2, h3]⟩ hs he) ?_
  rintro e a' w' ⟨ds, F', M, ⟨hE, e1, hX⟩, hok, hs', he'⟩
  subst e1
  have hres : (results fn a'.tmps).run P w' = .ok (.tuple #[]) w' := run_resultsC fn P w' a'.tmps F' M hs' [] [] hr hok.val .nil
  rcases hE with rfl | rfl
  · exact ⟨hok.defs, _, hres, ⟨_, rfl⟩, he', M, hX, hs'⟩
  · exact ⟨hok.defs, _, hres, ⟨_, rfl⟩, he', M, hX, hs'⟩
theorem enters_body (P : Program) (f : FuncId) [hb : Body P f] : ∀ (args : Array Value) (w : World), (callFunc f args).run P w = .ok (.enter f args) w := fun args w => by
  have h0 := hb.out
  unfold hasBody at h0
  split at h0
  · rename_i fn hf
    simp only [Bool.and_eq_true, Bool.not_eq_true'] at h0
    obtain ⟨h1, h2⟩ := h0
    simp [callFunc, hf, go_sem]
    rw [if_neg (by simpa using h2), if_neg (by cases hbb : fn.body <;> simp_all)]
  · cases h0
end Go.KK

/- The text K27. -/
/-!
  More on a block that begins with an array.
-/
set_option linter.unusedVariables false
set_option linter.unusedSimpArgs false
namespace Go.KK
section
variable {P : Program} {F : Fr} {L : List Asn} {dst : Option Tmp} {ty : TypeId} {pos : String} {aft : Array Edge} {gd : Option (Nat × Bool)}
theorem Pur.idxV {t n e m : Nat} [ha : ArT P t n e m] {x ix : Operand} {b : Nat} {kd : IntKind} {i : Int} {k : Nat} (hx : ev F x = some (.pointer (some ⟨b, 0 + 0, none⟩))) (hi : ev F ix = some (.int kd i))
    (hik : i = (k : Int)) (hk : k < n) : Pur P F L ⟨dst, .indexAddr t x ix, ty, pos, aft, gd⟩ (.pointer (some ⟨b, k * m, none⟩)) := by
  have h := Pur.idxA (ha := ha) (L := L) (dst := dst) (ty := ty) (pos := pos) (aft := aft) (gd := gd) hx hi hik hk
  have e : 0 + 0 + k * m = k * m := by omega
  rw [e] at h; exact h
theorem setAt_of {v : Value} : ∀ {l : List Value} {k : Nat}, k < l.length → SetAt v l k (l.set k v)
  | [], k, h => by simp at h
  | z :: l, 0, h => .head
  | z :: l, k + 1, h => .tail (setAt_of (by simpa using h))
theorem Eff.storeArrF {α : Type} {E : Enc α} {t m i k : Nat} [h1 : One P t] {x y : Operand} {b : Nat} {v : Value} {xs : List α} {z z' : α} {r : List Value} {T : TypeId} {f : Obj → List Asn}
    (hx : ev F x = some (.pointer (some ⟨b, i * m + k, none⟩))) (hy : ev F y = some v) (hv : v.oneCell' = true) [hb : BlkH L b (arr E xs r T) f] (hm : E.m = m) (hz : xs[i]? = some z) (hset : SetAt v (E.enc z) k (E.enc z')) :
    Eff P F L ⟨dst, .store t x y, ty, pos, aft, gd⟩ (fun u M => u = undef ∧ M = f (arr E (xs.set i z') r T)) := by
  subst hm
  obtain ⟨e1, e2⟩ := hset.eq
  have hk : k < E.m := by rw [← E.len z]; exact e2
  have hi := (List.getElem?_eq_some_iff.1 hz).1
  have hlt : i * E.m + k < (E.all xs).length := by
    rw [E.all_len]
    have : (i + 1) * E.m ≤ xs.length * E.m := Nat.mul_le_mul_right _ hi
    rw [Nat.add_mul] at this; omega
  have e3 : (E.all xs ++ r).set (i * E.m + k) v = E.all (xs.set i z') ++ r := by
    rw [List.set_append_left _ _ hlt, E.all_set xs i k z z' v hz hk e1]
  have hs := setAt_of (v := v) (l := E.all xs ++ r) (k := i * E.m + k) (by rw [List.length_append]; omega)
  rw [e3] at hs
  exact Eff.store (p := ⟨b, i * E.m + k, none⟩) hx hy hv rfl rfl hs (hb.out _)
end
end Go.KK

/- The text K28. -/
/-!
  A slice argument of scalars, as a list; the reach of a slice argument.
-/
set_option linter.unusedVariables false
set_option linter.unusedSimpArgs false
namespace Go.KK
open Go.ChangeShapes Go.WideShapes Go.ChangeAt Go.RowKit
section
open Go.Deep
variable {H : Type} {enc : TypeId × Value → H} {P : Program} {w : World} {base : Nat} {spare : Nat → Bool} {held : Bool}
theorem open_scal {α : Type} [Inhabited α] (E : Enc α) {t e : TypeId} {v : Value} {d : DataW H} {ps : List MemPlace} {κ : Nat} (ht : P.underlying t = some (.slice e)) (hk : kindB P e = some κ) (hC : P.cellsOf e = 1) (hm : E.m = 1)
    (hmk : ∀ g : Value, isV κ g → ∃ x : α, (E.enc x)[0]? = some g)
    (hv : ∃ a len cap, v = .slice a len cap) (h : DataW.Trod enc P w base spare held t v d ps) : ∃ (a : Option Addr) (xs : List α) (cap : Nat), v = .slice a xs.length cap ∧ xs.length ≤ maxLen ∧ xs.length ≤ cap ∧ (a = none → xs = [] ∧ cap = 0) ∧ slR E (hp w) a xs := by
  obtain ⟨fuel, hf⟩ := h
  obtain ⟨a0, len0, cap0, rfl⟩ := hv
  rcases open_slice ht hf with h0 | ⟨a, len, cap, m, n, D, Pl, h0, hb, h1, h2, hmm, hx, hi⟩
  · simp [Value.cells] at h0
    obtain ⟨⟨rfl, rfl, rfl⟩, _⟩ := h0
    exact ⟨none, [], 0, rfl, by unfold maxLen; simp, by simp, fun _ => ⟨rfl, rfl⟩, .inl rfl⟩
  · simp [Value.cells] at h0
    obtain ⟨rfl, rfl, rfl⟩ := h0
    have hex : ∀ i, i < len0 → ∃ x : α, ∀ k u, k < E.m → (E.enc x)[k]? = some u → w.cell? (a.add (i * E.m + k)) = some u := by
      intro i hil
      obtain ⟨cs', hc, ht'⟩ := hi i (by rw [hmm]; split <;> omega)
      rw [hC] at hc
      obtain ⟨_, hcl, hat⟩ := World.cells?_some hc
      match cs', hcl with
      | [g], _ =>
        obtain ⟨x, hx⟩ := hmk g (kind_cell hk ht')
        refine ⟨x, fun k u hk hu => ?_⟩
        rw [hm] at hk ⊢
        have hk0 : k = 0 := by omega
        subst hk0
        rw [hx] at hu
        cases hu
        have := hat 0 (by omega)
        rw [Go.Deep.add_add] at this
        exact this
    obtain ⟨F, hF⟩ := choose_lt hex
    refine ⟨some a, (List.range len0).map F, cap0, by simp, by simp; omega, by simp; omega, (fun h => by cases h), slR_of (by omega) ?_⟩
    intro i x hx k u hk hu
    rw [List.getElem?_map] at hx
    by_cases hil : i < len0
    · rw [List.getElem?_range hil] at hx
      simp only [Option.map_some, Option.some.injEq] at hx
      subst hx
      exact hF i hil k u hk hu
    · rw [List.getElem?_eq_none (by simp; omega)] at hx; cases hx
theorem reach_len {t e : TypeId} {a : Option Addr} {n cap : Nat} {d : DataW H} {ps : List MemPlace} (ht : P.underlying t = some (.slice e)) (h : DataW.Trod enc P w base spare held t (.slice a n cap) d ps)
    {ts : List TypeId} {ds : List (DataW H)} {j : Nat} (hz : (DataW.weightsEach P ts ds).all (· ≤ reachBytes) = true) (h1 : ts[j]? = some t) (h2 : ds[j]? = some d) : n * P.bytesOf e ≤ reachBytes := by
  obtain ⟨fuel, hf⟩ := h
  rcases open_slice ht hf with h0 | ⟨a, len, cap, m, n', D, Pl, h0, hb, h3, h4, hmm, hx, hi⟩
  · simp [Value.cells] at h0
    obtain ⟨⟨rfl, rfl, rfl⟩, _⟩ := h0
    simp
  · simp [Value.cells] at h0
    obtain ⟨rfl, rfl, rfl⟩ := h0
    have hd : d = .slice ((List.range n).map D) ((List.range (m - n)).map fun j => D (n + j)) := congrArg Prod.fst hx
    subst hd
    have := sized_slice hz h1 h2 ht
    simp only [List.length_map, List.length_range] at this
    exact Nat.le_trans (Nat.mul_le_mul_right _ (by omega)) this
end
end Go.KK

/- The text K29. -/
/-!
  Shifts, bits.
-/
set_option linter.unusedVariables false
set_option linter.unusedSimpArgs false
namespace Go.KK
section
variable {P : Program} {F : Fr} {L : List Asn} {dst : Option Tmp} {ty : TypeId} {pos : String} {aft : Array Edge} {gd : Option (Nat × Bool)}
theorem Pur.shl {t t' : Nat} {x y : Operand} {a : Int} {b : Nat} {i : Int} (hx : ev F x = some (.int .i64 a)) (hy : ev F y = some (.int .i64 i)) (hi : i = (b : Int)) (hb : b ≤ 64) (h : IntKind.i64.wrap (a * 2 ^ b) = a * 2 ^ b) :
    Pur P F L ⟨dst, .binOp .shl t x y t', ty, pos, aft, gd⟩ (.int .i64 (a * 2 ^ b)) := fun ρ w hρ _ => by
  subst hi
  have h1 := shift_shl_i64 (yk := .i64) (x := a) (y := (b : Int)) (by omega) (by omega)
  rw [Int.toNat_natCast, h] at h1
  simp [execOp, hρ _ _ hx, hρ _ _ hy, eqGuard, binOp_shl, h1, go_sem]
  try exact h
theorem Pur.shr {t t' : Nat} {x y : Operand} {a b : Nat} {i j : Int} (hx : ev F x = some (.int .i64 j)) (hy : ev F y = some (.int .i64 i)) (hj : j = (a : Int)) (hi : i = (b : Int)) (hb : b ≤ 64) :
    Pur P F L ⟨dst, .binOp .shr t x y t', ty, pos, aft, gd⟩ (.int .i64 ((a / 2 ^ b : Nat) : Int)) := fun ρ w hρ _ => by
  subst hi; subst hj
  have h1 := shift_shr_i64 (yk := .i64) (x := (a : Int)) (y := (b : Int)) (by omega) (by omega)
  rw [Int.toNat_natCast, show (a : Int) / 2 ^ b = ((a / 2 ^ b : Nat) : Int) by rw [Int.natCast_ediv, Int.natCast_pow]; rfl] at h1
  simp [execOp, hρ _ _ hx, hρ _ _ hy, eqGuard, binOp_shr, h1, go_sem]
theorem bits_one (a : Nat) (h : a < 2 ^ 62) : bits .and .i64 (a : Int) 1 = ((a % 2 : Nat) : Int) := by
  unfold bits
  have e1 : (BitVec.ofInt IntKind.i64.bits (a : Int)) = BitVec.ofNat 64 a := BitVec.ofInt_natCast 64 a
  have e2 : (BitVec.ofInt IntKind.i64.bits 1) = BitVec.ofNat 64 1 := rfl
  simp only [e1, e2]
  show IntKind.i64.wrap ((BitVec.ofNat 64 a &&& BitVec.ofNat 64 1).toNat : Int) = _
  rw [BitVec.toNat_and, BitVec.toNat_ofNat, BitVec.toNat_ofNat, Nat.mod_eq_of_lt (by omega : a < 2 ^ 64), show 1 % 2 ^ 64 = 1 from rfl, Nat.and_one_is_mod]
  exact wr64 (by omega)
theorem Pur.and1 {t t' : Nat} {x y : Operand} {a : Nat} {i : Int} (hx : ev F x = some (.int .i64 i)) (hy : ev F y = some (.int .i64 1)) (hi : i = (a : Int)) (ha : a < 2 ^ 62) :
    Pur P F L ⟨dst, .binOp .and t x y t', ty, pos, aft, gd⟩ (.int .i64 ((a % 2 : Nat) : Int)) := fun ρ w hρ _ => by
  subst hi
  have h1 := bits_one a ha
  simp [execOp, hρ _ _ hx, hρ _ _ hy, eqGuard, binOp_and, intBits_and, h1, go_sem]
end
end Go.KK

/- The text K30. -/
/-!
  Maps: what is taken out of one, and a range over one, in whatever order its entries come.
-/
set_option linter.unusedVariables false
set_option linter.unusedSimpArgs false
set_option linter.unusedSectionVars false
namespace Go.KK
open Go.ChangeMaps (setBlock)
section
variable {κ : Type} [DecidableEq κ]
def adel (m : List (κ × Value)) (k : κ) : List (κ × Value) := match m.findIdx? (fun p => decide (k = p.1)) with
  | some j => m.eraseIdx j
  | none => m
/-- A map with an iterator over it, that has come to the entries of S, the last first. -/
@[irreducible] def mpIt (K : KeyE κ) (b i : Nat) (m : List (κ × Value)) (S : List Nat) : Asn := fun h => ∃ es clock seen, h b = some (.map es clock) ∧ h i = some (.mapIter (some b) clock seen clock) ∧ ents K es m ∧ bornOk es clock ∧
  seen.toList.reverse = S.map (fun j => ((es[j]?).map (·.born)).getD 0) ∧ ∀ j ∈ S, j < es.size
theorem mpIt_iff {K : KeyE κ} {b i : Nat} {m : List (κ × Value)} {S : List Nat} {h : Hp} : mpIt K b i m S h ↔ ∃ es clock seen, h b = some (.map es clock) ∧ h i = some (.mapIter (some b) clock seen clock) ∧ ents K es m ∧ bornOk es clock ∧
  seen.toList.reverse = S.map (fun j => ((es[j]?).map (·.born)).getD 0) ∧ ∀ j ∈ S, j < es.size := by unfold mpIt; exact Iff.rfl
/-- The iterator is done with. -/
theorem mpIt_done {K : KeyE κ} {b i : Nat} {m : List (κ × Value)} {S : List Nat} {h : Hp} (hs : mpIt K b i m S h) : mp K b m h := by
  obtain ⟨es, clock, seen, h1, _, h2, h3, _⟩ := mpIt_iff.1 hs
  exact mp_iff.2 ⟨es, clock, h1, h2, h3⟩
theorem hp_setIf {w : World} {b : Nat} {o o' : Obj} (h : hp w b = some o) : hp { w with heap := w.heap.setIfInBounds b o' } = Hp.upd (hp w) b o' := by
  funext z
  have hb : b < w.heap.size := (Array.getElem?_eq_some_iff.1 h).1
  unfold hp Hp.upd
  simp only [Array.getElem?_setIfInBounds]
  by_cases e : z = b
  · subst e; simp [hb]
  · rw [if_neg (fun h => e h.symm), if_neg e]
theorem Hp.upd_le {h1 h : Hp} {b : Nat} {o : Obj} (hl : Hp.le h1 h) : Hp.le (Hp.upd h1 b o) (Hp.upd h b o) := fun x u hx => by
  unfold Hp.upd at *
  by_cases e : x = b
  · simpa [e] using hx
  · simp only [e, if_false] at *; exact hl _ _ hx
end
section
variable {κ : Type} [DecidableEq κ] {P : Program} {F : Fr} {L : List Asn} {dst : Option Tmp} {ty : TypeId} {pos : String} {aft : Array Edge} {gd : Option (Nat × Bool)}
class MpItIn {κ : outParam Type} (K : outParam (KeyE κ)) (L : List Asn) (i : Nat) (b : outParam Nat) (m : outParam (List (κ × Value))) (S : outParam (List Nat)) (f : outParam (Asn → List Asn)) : Prop where out : ∀ B, Rep (mpIt K b i m S) B L (f B)
instance MpItIn.head {κ : Type} {K : KeyE κ} {L : List Asn} {b i : Nat} {m : List (κ × Value)} {S : List Nat} : MpItIn K (mpIt K b i m S :: L) i b m S (fun B => B :: L) := ⟨fun _ => .head⟩
instance (priority := 900) MpItIn.tail {κ : Type} {K : KeyE κ} {A : Asn} {L : List Asn} {b i : Nat} {m : List (κ × Value)} {S : List Nat} {f : Asn → List Asn} [h : MpItIn K L i b m S f] : MpItIn K (A :: L) i b m S (fun B => A :: f B) := ⟨fun B => .tail (h.out B)⟩

theorem Eff.range {t kt et : Nat} [hT : MapT P t kt et] {x : Operand} {b : Nat} {K : KeyE κ} {m : List (κ × Value)} {f : Asn → List Asn} (hx : ev F x = some (.map (some b))) [hm : MpIn K L b m f] :
    Eff P F L ⟨dst, .range t x, ty, pos, aft, gd⟩ (fun u M => ∃ i, u = .pointer (some ⟨i, 0, none⟩) ∧ M = f (mpIt K b i m [])) := Eff.of_run fun ρ w hρ hs => by
  obtain ⟨es, clock, hb, he, hbo⟩ := MpIn.getB (b := b) (hh := hp w) hs
  have hut := run_underlying (P := P) hT.out w
  have hg := MapKept.run_getObj_map (P := P) (w := w) (r := b) (es := es) (clock := clock) hb
  have hbl : b < w.heap.size := (Array.getElem?_eq_some_iff.1 hb).1
  refine ⟨.pointer (some ⟨w.heap.size, 0, none⟩), { w with heap := w.heap.push (.mapIter (some b) clock #[] clock) }, f (mpIt K b w.heap.size m []), ?_, ⟨w.heap.size, rfl, rfl⟩, rfl, ?_⟩
  · have hex : execOp ρ ⟨dst, .range t x, ty, pos, aft, gd⟩ = (do pure (.value (← Instr.range t (ρ x)))) := rfl
    rw [hex]
    unfold Instr.range
    simp only [Sem.run_bind, hρ _ _ hx, hut, hg, Result.andThen_ok, Sem.run_pure]
    rfl
  · rw [hp_push]
    have hsz := hp_size w
    refine Sat.frameRep (hm.out _) hs fun h1 hA hl1 => ?_
    obtain ⟨es1, c1, hb1, he1, hbo1⟩ := mp_iff.1 hA
    have e2 : es1 = es ∧ c1 = clock := by have := hl1 _ _ hb1; rw [hb] at this; simp at this; exact ⟨this.1.symm, this.2.symm⟩
    obtain ⟨rfl, rfl⟩ := e2
    refine ⟨Hp.upd h1 w.heap.size (.mapIter (some b) c1 #[] c1), mpIt_iff.2 ⟨es1, c1, #[], ?_, by simp [Hp.upd], he1, hbo1, by simp, by simp⟩, Hp.upd_le hl1, ?_, ?_⟩
    · unfold Hp.upd; rw [if_neg (by omega)]; exact hb1
    · intro z hz
      unfold Hp.upd at hz
      by_cases e : z = w.heap.size
      · right; rw [e]; exact hsz
      · left; simpa [e] using hz
    · intro z o hz hno
      unfold Hp.upd
      by_cases e : z = w.heap.size
      · rw [e, hsz] at hz; cases hz
      · rw [if_neg e]; exact hz
theorem setBlock_hp {w w1 : World} {r : Nat} {o o' : Obj} (h1 : w1 = w ∨ w1 = w.drew) (h : hp w r = some o) : hp (setBlock w1 r o') = Hp.upd (hp w) r o' := by
  have e : hp (setBlock w1 r o') = hp { w with heap := w.heap.setIfInBounds r o' } := by rcases h1 with rfl | rfl <;> rfl
  rw [e]; exact hp_setIf h
theorem left_mem {es : Array MapEntry} {clock : Nat} {seen : Array Nat} {S : List Nat} (hbo : bornOk es clock) (hseen : seen.toList.reverse = S.map (fun j => ((es[j]?).map (·.born)).getD 0)) (hS : ∀ j ∈ S, j < es.size) {j : Nat} {e : MapEntry} (he : es[j]? = some e) :
    e ∈ (leftOf es seen).toList ↔ ¬ j ∈ S := by
  have hjl : j < es.size := (Array.getElem?_eq_some_iff.1 he).1
  have hmem : e.born ∈ seen.toList ↔ j ∈ S := by
    rw [← List.mem_reverse, hseen, List.mem_map]
    constructor
    · rintro ⟨i, hi, hb⟩
      have hil := hS i hi
      rw [Array.getElem?_eq_getElem hil] at hb
      simp only [Option.map_some, Option.getD_some] at hb
      have hp := List.pairwise_iff_getElem.1 hbo.1
      have hij : i = j := by
        rcases Nat.lt_trichotomy i j with h | h | h
        · have := hp i j (by simpa using hil) (by simpa using hjl) h
          simp only [List.getElem_map, Array.getElem_toList] at this
          rw [(Array.getElem?_eq_some_iff.1 he).2] at this
          exact absurd hb this
        · exact h
        · have := hp j i (by simpa using hjl) (by simpa using hil) h
          simp only [List.getElem_map, Array.getElem_toList] at this
          rw [(Array.getElem?_eq_some_iff.1 he).2] at this
          exact absurd hb.symm this
      exact hij ▸ hi
    · intro hj; exact ⟨j, hj, by rw [he]; rfl⟩
  unfold leftOf
  rw [Array.toList_filter, List.mem_filter]
  constructor
  · rintro ⟨_, h⟩ hj
    have : e.born ∈ seen := by simpa using hmem.2 hj
    simp [this] at h
  · intro hj
    refine ⟨by rw [← (Array.getElem?_eq_some_iff.1 he).2]; simp, ?_⟩
    have : ¬ e.born ∈ seen := fun h => hj (hmem.1 (by simpa using h))
    simp [this]
theorem Eff.next {x : Operand} {i b : Nat} {K : KeyE κ} {m : List (κ × Value)} {S : List Nat} {f : Asn → List Asn} (hx : ev F x = some (.pointer (some ⟨i, 0, none⟩))) [hm : MpItIn K L i b m S f] :
    Eff P F L ⟨dst, .next x false, ty, pos, aft, gd⟩ (fun u M => (∃ j k v, m[j]? = some (k, v) ∧ ¬ j ∈ S ∧ u = .tuple #[.bool true, K.v k, v] ∧ M = f (mpIt K b i m (j :: S))) ∨ ((∀ j, j < m.length → j ∈ S) ∧ u = .tuple #[.bool false] ∧ M = f (mpIt K b i m S))) := Eff.of_run fun ρ w hρ hs => by
  obtain ⟨h0, l0, a0⟩ := Sat.memRep (hm.out (mpIt K b i m S)) hs
  obtain ⟨es, clock, seen, hb1, hi1, he, hbo, hseen, hS⟩ := mpIt_iff.1 a0
  have hb : hp w b = some (.map es clock) := l0 _ _ hb1
  have hi : hp w i = some (.mapIter (some b) clock seen clock) := l0 _ _ hi1
  have hlen : es.size = m.length := ents_len he
  have hex : execOp ρ ⟨dst, .next x false, ty, pos, aft, gd⟩ = (do pure (.value (← Instr.next (ρ x) false ty))) := rfl
  have hall : ∀ j, j < es.size → ∃ e k v, es[j]? = some e ∧ m[j]? = some (k, v) ∧ e.key = K.v k ∧ e.val = v := by
    intro j hj
    have h1 := congrArg (fun l => l[j]?) he.1
    simp only [List.getElem?_map, Array.getElem?_toList, Array.getElem?_eq_getElem hj, List.getElem?_eq_getElem (show j < m.length by omega), Option.map_some, Option.some.injEq, Prod.mk.injEq] at h1
    exact ⟨es[j], m[j].1, m[j].2, Array.getElem?_eq_getElem hj, List.getElem?_eq_getElem (by omega), h1.1, h1.2⟩
  rcases run_next_at (P := P) w ty i b clock clock seen es clock hi hb hbo.2 (Nat.le_refl _) with ⟨h1, h2⟩ | ⟨e, he1, w1, hw1, hrun⟩
  · refine ⟨_, w, f (mpIt K b i m S), ?_, .inr ⟨fun j hj => ?_, rfl, rfl⟩, rfl, ?_⟩
    · rw [hex, Sem.run_bind, hρ _ _ hx, h2]; rfl
    · obtain ⟨e, k, v, g1, _⟩ := hall j (by omega)
      by_cases hj2 : j ∈ S
      · exact hj2
      · have h3 := (left_mem hbo hseen hS g1).2 hj2
        have h4 : (leftOf es seen).toList = [] := List.eq_nil_of_length_eq_zero (by rw [Array.length_toList]; exact h1)
        rw [h4] at h3; cases h3
    · obtain ⟨R, p1, p2⟩ := (hm.out (mpIt K b i m S)).perm
      exact (hs.perm p1).perm p2.symm
  · have hin : e ∈ es.toList := by
      unfold leftOf at he1
      rw [Array.toList_filter] at he1
      exact (List.mem_filter.1 he1).1
    obtain ⟨j, hj, hje⟩ := List.getElem_of_mem hin
    have hjl : j < es.size := by simpa using hj
    obtain ⟨e', k, v, g1, g2, g3, g4⟩ := hall j hjl
    have hee : e' = e := by rw [Array.getElem?_eq_getElem hjl] at g1; rw [← hje]; exact (Option.some.inj g1).symm
    subst hee
    have hjS := (left_mem hbo hseen hS g1).1 he1
    refine ⟨.tuple #[.bool true, K.v k, v], setBlock w1 i (.mapIter (some b) clock (seen.push e'.born) clock), f (mpIt K b i m (j :: S)), ?_, .inl ⟨j, k, v, g2, hjS, rfl, rfl⟩, ?_, ?_⟩
    · rw [hex, Sem.run_bind, hρ _ _ hx, hrun, g3, g4]; rfl
    · rcases hw1 with rfl | rfl <;> rfl
    · rw [setBlock_hp hw1 hi]
      refine Sat.frameRep (hm.out _) hs fun h1 hA hl1 => ?_
      obtain ⟨es1, c1, seen1, hb2, hi2, he2, hbo2, hs2, hS2⟩ := mpIt_iff.1 hA
      have e2 : es1 = es ∧ c1 = clock := by have := hl1 _ _ hb2; rw [hb] at this; simp at this; exact ⟨this.1.symm, this.2.symm⟩
      obtain ⟨rfl, rfl⟩ := e2
      have hne : b ≠ i := fun e => by rw [e, hi] at hb; cases hb
      refine ⟨Hp.upd h1 i (.mapIter (some b) c1 (seen.push e'.born) c1), mpIt_iff.2 ⟨es1, c1, seen.push e'.born, ?_, by simp [Hp.upd], he, hbo, ?_, ?_⟩, Hp.upd_le hl1, ?_, ?_⟩
      · unfold Hp.upd; rw [if_neg hne]; exact hb2
      · rw [Array.toList_push, List.reverse_append, hseen, List.map_cons, g1]; rfl
      · intro z hz
        rcases List.mem_cons.1 hz with rfl | hz
        · exact hjl
        · exact hS z hz
      · intro z hz
        unfold Hp.upd at hz
        by_cases e : z = i
        · left; rw [e, hi2]; simp
        · left; simpa [e] using hz
      · intro z o hz hno
        unfold Hp.upd
        by_cases e : z = i
        · rw [e, hi2] at hno; cases hno
        · rw [if_neg e]; exact hz
/-- The entry that the iterator came to last, read again. -/
theorem Pur.entry {x : Operand} {i b j : Nat} {K : KeyE κ} {m : List (κ × Value)} {S : List Nat} {f : Asn → List Asn} {k : κ} {v : Value} (hx : ev F x = some (.pointer (some ⟨i, 0, none⟩))) [hm : MpItIn K L i b m (j :: S) f] (hj : m[j]? = some (k, v)) :
    Pur P F L ⟨dst, .entry x, ty, pos, aft, gd⟩ (.tuple #[K.v k, v]) := fun ρ w hρ hs => by
  obtain ⟨h0, l0, a0⟩ := Sat.memRep (hm.out (mpIt K b i m (j :: S))) hs
  obtain ⟨es, clock, seen, hb1, hi1, he, hbo, hseen, hS⟩ := mpIt_iff.1 a0
  have hb : hp w b = some (.map es clock) := l0 _ _ hb1
  have hi : hp w i = some (.mapIter (some b) clock seen clock) := l0 _ _ hi1
  have hjl := hS j (by simp)
  have h1 := congrArg (fun l => l[j]?) he.1
  simp only [List.getElem?_map, Array.getElem?_toList, Array.getElem?_eq_getElem hjl, hj, Option.map_some, Option.some.injEq, Prod.mk.injEq] at h1
  have hsp : ∃ s0 : Array Nat, seen = s0.push es[j].born := by
    rw [List.map_cons, Array.getElem?_eq_getElem hjl] at hseen
    simp only [Option.map_some, Option.getD_some] at hseen
    refine ⟨⟨(S.map (fun j => ((es[j]?).map (·.born)).getD 0)).reverse⟩, ?_⟩
    apply Array.toList_inj.1
    rw [Array.toList_push]
    have := congrArg List.reverse hseen
    rw [List.reverse_reverse, List.reverse_cons] at this
    exact this
  obtain ⟨s0, rfl⟩ := hsp
  have hr := run_entry_at (P := P) w i b clock s0 es clock es[j] hi hb (by simp) hbo.1
  have hex : execOp ρ ⟨dst, .entry x, ty, pos, aft, gd⟩ = (do pure (.value (← Instr.entry (ρ x)))) := rfl
  rw [hex, Sem.run_bind, hρ _ _ hx, hr, h1.1, h1.2]; rfl

theorem map_erase {α β : Type} (g : α → β) : ∀ (l : List α) (j : Nat), (l.eraseIdx j).map g = (l.map g).eraseIdx j
  | [], _ => by simp
  | _ :: _, 0 => rfl
  | x :: l, j + 1 => by rw [List.eraseIdx_cons_succ, List.map_cons, List.map_cons, List.eraseIdx_cons_succ, map_erase g l j]
theorem ents_erase {K : KeyE κ} {es : Array MapEntry} {m : List (κ × Value)} {c j : Nat} (he : ents K es m) (hbo : bornOk es c) : ents K (es.eraseIdxIfInBounds j) (m.eraseIdx j) ∧ bornOk (es.eraseIdxIfInBounds j) c := by
  have ht : (es.eraseIdxIfInBounds j).toList = es.toList.eraseIdx j := by
    unfold Array.eraseIdxIfInBounds
    split
    · simp
    · rename_i h; rw [List.eraseIdx_of_length_le (by simpa using h)]
  refine ⟨⟨?_, ?_⟩, ?_, ?_⟩
  · rw [ht, map_erase, map_erase, he.1]
  · rw [map_erase]; exact List.Nodup.sublist (List.eraseIdx_sublist _ _) he.2
  · rw [ht, map_erase]; exact List.Nodup.sublist (List.eraseIdx_sublist _ _) hbo.1
  · intro e he'; rw [ht] at he'; exact hbo.2 e ((List.eraseIdx_sublist _ _).subset he')
theorem Eff.mapDelete {t kt et t2 : Nat} [hT : MapT P t kt et] {x y : Operand} {b : Nat} {K : KeyE κ} {m : List (κ × Value)} {f : Asn → List Asn} {k : κ} [hK : KeyIs P kt K]
    (hx : ev F x = some (.map (some b))) (hy : ev F y = some (K.v k)) [hm : MpIn K L b m f] :
    Eff P F L ⟨dst, .call ⟨.builtin .delete, #[x, y], #[t, t2]⟩, ty, pos, aft, gd⟩ (fun u M => u = .tuple #[] ∧ M = f (mp K b (adel m k))) := Eff.of_run fun ρ w hρ hs => by
  obtain ⟨es, clock, hb, he, hbo⟩ := MpIn.getB (b := b) (hh := hp w) hs
  have hut := run_underlying (P := P) hT.out w
  have hg := MapKept.run_getObj_map (P := P) (w := w) (r := b) (es := es) (clock := clock) hb
  obtain ⟨es', hrun, hents⟩ : ∃ es', (Builtin.delete_ #[t, t2] ty #[.map (some b), K.v k]).run P w = .ok (.tuple #[]) { w with heap := w.heap.setIfInBounds b (.map es' clock) } ∧ ents K es' (adel m k) ∧ bornOk es' clock := by
    unfold Builtin.delete_ adel
    simp only [List.getElem?_toArray, List.getElem?_cons_zero, List.getElem?_cons_succ, Sem.run_bind, hut, Result.andThen_ok, hg, K.scalar P w kt k _ hK.out, run_findKey w hK.out he]
    cases hf : m.findIdx? (fun p => decide (k = p.1)) with
    | none =>
      refine ⟨es, ?_, he, hbo⟩
      simp only [Option.bind_none]
      rw [Sem.run_bind, MapKept.run_setObj_map _ hb]; rfl
    | some j =>
      obtain ⟨p, hp, hkp⟩ := find_some hf
      refine ⟨es.eraseIdxIfInBounds j, ?_, ents_erase he hbo⟩
      simp only [Option.bind_some, hp, Option.map_some]
      rw [Sem.run_bind, MapKept.run_setObj_map _ hb]; rfl
  refine ⟨_, { w with heap := w.heap.setIfInBounds b (.map es' clock) }, f (mp K b (adel m k)), ?_, ⟨rfl, rfl⟩, rfl, ?_⟩
  · unfold execOp
    simp only [resolve, invoke, builtin, Sem.run_bind, Sem.run_pure, Result.andThen_ok, List.map_toArray, List.map_cons, List.map_nil, hρ _ _ hx, hρ _ _ hy, hrun]
  · rw [hp_setIf hb]
    refine Sat.frameRep (hm.out _) hs fun h1 hA hl1 => ?_
    obtain ⟨es1, c1, hb1, _⟩ := mp_iff.1 hA
    refine ⟨Hp.upd h1 b (.map es' clock), mp_iff.2 ⟨es', clock, by simp [Hp.upd], hents⟩, Hp.upd_le hl1, ?_, ?_⟩
    · intro z hz
      unfold Hp.upd at hz
      by_cases e : z = b
      · left; rw [e, hb1]; simp
      · left; simpa [e] using hz
    · intro z o hz hno
      unfold Hp.upd
      by_cases e : z = b
      · rw [e, hb1] at hno; cases hno
      · rw [if_neg e]; exact hz
end
end Go.KK
