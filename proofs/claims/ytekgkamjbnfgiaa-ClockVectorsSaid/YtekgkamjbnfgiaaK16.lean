/-
  A part of the proof of the claim that this folder bears.
  This text: K16.
-/
import Derived.Test.YtekgkamjbnfgiaaK15
set_option linter.unusedVariables false
set_option linter.unusedSimpArgs false
namespace Go.KK

/-! The same with what has come up as the bits of a number: the side conditions are reckoned faster. -/
def lm (n m : Nat) : Array Bool := ((List.range n).map (fun k => m.testBit k)).toArray
theorem lm_get (n m k : Nat) (d : Bool) : (lm n m).getD k d = if k < n then m.testBit k else d := by
  unfold lm
  rw [Array.getD_eq_getD_getElem?]
  by_cases h : k < n
  · simp [h]
  · simp [h]
theorem lm_set {n m i : Nat} : (lm n m).setIfInBounds i true = lm n (m ||| 2 ^ i) := by
  apply Array.ext_getElem?
  intro k
  rw [Array.getElem?_setIfInBounds]
  unfold lm
  simp only [List.getElem?_toArray, List.getElem?_map, Nat.testBit_or, Nat.testBit_two_pow, List.size_toArray, List.length_map, List.length_range]
  by_cases hk : i = k
  · subst hk
    by_cases h : i < n <;> simp [h]
  · by_cases h : k < n <;> simp [h, hk]

def readyB (ops : List Oper) (m i : Nat) : Bool :=
  match ops[i]? with
  | some o => !m.testBit i && o.after.toList.all fun e => !Region.binds .any e || m.testBit e.on
  | none => false
def freeGo (all : Array Oper) (oi : Oper) (m i : Nat) : Nat → List Oper → Bool
  | _, [] => true
  | j, o :: r => (Nat.beq j i || m.testBit j || oi.apart all o || o.after.toList.any (fun e => Region.binds .any e && Nat.beq e.on i)) && freeGo all oi m i (j + 1) r
def freeB (ops : List Oper) (m i : Nat) : Bool :=
  match ops[i]? with
  | some oi => freeGo ops.toArray oi m i 0 ops
  | none => false
def ancF (ops : List Oper) (i : Nat) : Nat → Nat → Bool
  | 0, _ => false
  | n + 1, k => match ops[k]? with
    | some o => o.after.toList.any (fun e => Region.binds .any e && Nat.beq e.on i) || o.after.toList.any (fun e => Region.binds .any e && ancF ops i n e.on)
    | none => false
def selB (ops : List Oper) : Bool := ops.all fun o => match o.op with | .select .. => false | _ => true
def okT (ops : List Oper) (E : List Nat) (m i : Nat) : Bool := readyB ops m i && freeB ops m i && E.all (fun e => ancF ops i 4 e)

theorem ready_iff {ops : List Oper} {m j : Nat} (hedge : ∀ o ∈ ops, ∀ e ∈ o.after, Region.binds .any e = true → e.on < ops.length) :
    j ∈ Region.ready .any ops.toArray (lm ops.length m) ↔ readyB ops m j = true := by
  rw [mem_ready]
  unfold readyB
  constructor
  · rintro ⟨h0, o, ho, hall⟩
    have ho' : ops[j]? = some o := by simpa using ho
    have hlt : j < ops.length := (List.getElem?_eq_some_iff.1 ho').1
    rw [ho']
    rw [lm_get, if_pos hlt] at h0
    simp only [h0, Bool.not_false, Bool.true_and, List.all_eq_true]
    intro e he
    cases hb : Region.binds .any e with
    | false => rfl
    | true =>
      have := hall e (by simpa using he) hb
      rw [lm_get, if_pos (hedge o (List.mem_of_getElem? ho') e (by simpa using he) hb)] at this
      simp [this]
  · intro h
    cases ho : ops[j]? with
    | none => simp [ho] at h
    | some o =>
      simp only [ho, Bool.and_eq_true, Bool.not_eq_true', List.all_eq_true] at h
      have hlt : j < ops.length := (List.getElem?_eq_some_iff.1 ho).1
      refine ⟨by rw [lm_get, if_pos hlt]; exact h.1, o, by simpa using ho, fun e he hb => ?_⟩
      have := h.2 e (by simpa using he)
      rw [lm_get, if_pos (hedge o (List.mem_of_getElem? ho) e he hb)]
      simpa [hb] using this

def edgeB (ops : List Oper) : Bool := ops.all fun o => o.after.toList.all fun e => !Region.binds .any e || Nat.blt e.on ops.length
theorem edge_of {ops : List Oper} (h : edgeB ops = true) : ∀ o ∈ ops, ∀ e ∈ o.after, Region.binds .any e = true → e.on < ops.length := by
  intro o ho e he hb
  have h1 := List.all_eq_true.1 h o ho
  have h2 := List.all_eq_true.1 h1 e (by simpa using he)
  simp only [hb, Bool.not_true, Bool.false_or, Nat.blt_eq] at h2
  exact h2

theorem freeGo_spec {all : Array Oper} {oi : Oper} {m i : Nat} : ∀ (l : List Oper) (k : Nat), freeGo all oi m i k l = true → ∀ j o, l[j]? = some o → k + j ≠ i → m.testBit (k + j) = false → (∀ e ∈ o.after, Region.binds .any e = true → e.on ≠ i) → oi.apart all o = true
  | [], k, _, j, o, h, _, _, _ => by simp at h
  | x :: l, k, hf, j, o, h, hne, hun, hno => by
    simp only [freeGo, Bool.and_eq_true] at hf
    cases j with
    | zero =>
      simp at h; subst h
      have h1 := hf.1
      simp only [Nat.add_zero] at hne hun
      have hb : Nat.beq k i = false := by cases hb : Nat.beq k i with | true => exact absurd (Nat.eq_of_beq_eq_true hb) hne | false => rfl
      simp only [hb, hun, Bool.false_or, Bool.or_eq_true] at h1
      rcases h1 with h1 | h1
      · exact h1
      · simp only [List.any_eq_true, Bool.and_eq_true] at h1
        obtain ⟨e, he, hbd, heq⟩ := h1
        exact absurd (Nat.eq_of_beq_eq_true heq) (hno e (by simpa using he) hbd)
    | succ j =>
      simp at h
      exact freeGo_spec l (k + 1) hf.2 j o h (by omega) (by rw [show k + 1 + j = k + (j + 1) from by omega]; exact hun) hno

theorem ancF_anc {ops : List Oper} {i : Nat} : ∀ n k, ancF ops i n k = true → ancB ops.toArray i n k = true
  | 0, k, h => by simp [ancF] at h
  | n + 1, k, h => by
    simp only [ancF] at h
    cases hk : ops[k]? with
    | none => simp [hk] at h
    | some o =>
      simp only [hk, Bool.or_eq_true, List.any_eq_true, Bool.and_eq_true] at h
      simp only [ancB, List.getElem?_toArray, hk]
      rw [Array.any_eq_true]
      rcases h with ⟨e, he, hb, hq⟩ | ⟨e, he, hb, hq⟩
      · obtain ⟨j, hj, rfl⟩ := List.mem_iff_getElem.1 he
        refine ⟨j, by simpa using hj, ?_⟩
        have := Nat.eq_of_beq_eq_true hq
        simp only [Array.getElem_toList] at hb this
        simp [hb, this]
      · obtain ⟨j, hj, rfl⟩ := List.mem_iff_getElem.1 he
        refine ⟨j, by simpa using hj, ?_⟩
        simp only [Array.getElem_toList] at hb hq
        have := ancF_anc n _ hq
        simp [hb, this]

def JM (c : Cx) (ops : List Oper) (E : List Nat) (fuel m : Nat) (Lk : List Asn) (F : Fr) (L : List Asn) (k : List Item) : Prop :=
  ∀ a w, (selB ops && edgeB ops) = true → Closed ops.toArray (lm ops.length m) → OkF c.n F a → Sat (hp w) L → wpAnyE c.P ops.toArray (Qk c k w) (fun w => Sat (hp w) Lk) E fuel (lm ops.length m) a w
def JMi (c : Cx) (ops : List Oper) (E : List Nat) (fuel m i : Nat) (Lk : List Asn) (F : Fr) (L : List Asn) (k : List Item) : Prop :=
  ∀ a w, (selB ops && edgeB ops) = true → Closed ops.toArray (lm ops.length (m ||| 2 ^ i)) → OkF c.n F a → Sat (hp w) L → wpOp c.P ops.toArray (Qk c k w) i (fun a' w' => (i ∈ E ∨ Sat (hp w') Lk) ∧ wpAnyE c.P ops.toArray (Qk c k w) (fun w => Sat (hp w) Lk) E fuel (lm ops.length (m ||| 2 ^ i)) a' w') a w

theorem sel_of {ops : List Oper} (h : selB ops = true) : Region.noSelect ops.toArray = true := by
  unfold Region.noSelect
  rw [List.all_toArray]
  exact h

theorem closed0 (ops : List Oper) : Closed ops.toArray (lm ops.length 0) := by
  intro k o hk hl
  have hlt : k < ops.length := by
    have : ops[k]? = some o := by simpa using hk
    exact (List.getElem?_eq_some_iff.1 this).1
  rw [lm_get, if_pos hlt] at hl
  simp at hl

section rules
variable {c : Cx} {F : Fr} {L : List Asn} {k : List Item} {ops : List Oper} {o : Oper} {fuel i m m' : Nat} {E : List Nat} {Lk : List Asn}

theorem J.mask {x : Code} {n : Nat} (E : List Nat) (Lk : List Asn) (hk : kind x = 2) (hm : c.P.follows .mixedOrders = true) (hl : (cOps x).length = n) (hse : (selB (cOps x) && edgeB (cOps x)) = true)
    (h : JM c (cOps x) E n 0 Lk F L k) : J c F L (.code x :: k) := fun a w hF hs => by
  cases x <;> simp only [kind, reduceCtorEq, Nat.reduceEqDiff, Nat.succ_ne_self] at hk
  case region id ops d =>
    cases d <;> simp only [kind, reduceCtorEq, Nat.reduceEqDiff] at hk
    intro fn hf hr cs
    have h1 : (Code.region id ops true).wp c.P (Qk c k w) a w := by
      refine wp_region_any hm (wpAny_of_E (S := fun w => Sat (hp w) Lk) (E := E) _ _ _ _ ?_)
      have := h a { w with drawn := w.drawn + 1 } hse (closed0 _) hF hs
      rw [Qk.to (w := w) (w' := { w with drawn := w.drawn + 1 }) rfl] at this
      simp only [cOps, Array.length_toList] at hl this
      subst hl
      have e : lm ops.size 0 = Array.replicate ops.size false := by
        apply Array.ext_getElem?
        intro j
        unfold lm
        by_cases hj : j < ops.size <;> simp [hj]
      rw [e] at this
      simpa using this
    obtain ⟨e, a', w', hq, harr⟩ := h1 (bse c.f) k cs
    cases e <;> simp only [Qk] at hq
    obtain ⟨v, L', w'', fr, q, s, hv, st, e', l⟩ := hq.2 fn hf hr cs
    exact ⟨v, L', w'', fr, q, s, hv.trans hq.1, Steps.trans harr st, e', l⟩
theorem J.mask0 {x : Code} {n : Nat} (E : List Nat) (hk : kind x = 2) (hm : c.P.follows .mixedOrders = true) (hl : (cOps x).length = n) (hse : (selB (cOps x) && edgeB (cOps x)) = true) (h : JM c (cOps x) E n 0 L F L k) : J c F L (.code x :: k) := J.mask E L hk hm hl hse h
theorem J.mask1 {x : Code} {n : Nat} {A : Asn} (E : List Nat) (hk : kind x = 2) (hm : c.P.follows .mixedOrders = true) (hl : (cOps x).length = n) (hse : (selB (cOps x) && edgeB (cOps x)) = true) (h : JM c (cOps x) E n 0 Lk F (A :: Lk) k) : J c F (A :: Lk) (.code x :: k) := J.mask E Lk hk hm hl hse h
theorem J.mask2 {x : Code} {n : Nat} {A B : Asn} (E : List Nat) (hk : kind x = 2) (hm : c.P.follows .mixedOrders = true) (hl : (cOps x).length = n) (hse : (selB (cOps x) && edgeB (cOps x)) = true) (h : JM c (cOps x) E n 0 Lk F (A :: B :: Lk) k) : J c F (A :: B :: Lk) (.code x :: k) := J.mask E Lk hk hm hl hse h
theorem J.mask3 {x : Code} {n : Nat} {A B D : Asn} (E : List Nat) (hk : kind x = 2) (hm : c.P.follows .mixedOrders = true) (hl : (cOps x).length = n) (hse : (selB (cOps x) && edgeB (cOps x)) = true) (h : JM c (cOps x) E n 0 Lk F (A :: B :: D :: Lk) k) : J c F (A :: B :: D :: Lk) (.code x :: k) := J.mask E Lk hk hm hl hse h
theorem J.mask4 {x : Code} {n : Nat} {A B D D' : Asn} (E : List Nat) (hk : kind x = 2) (hm : c.P.follows .mixedOrders = true) (hl : (cOps x).length = n) (hse : (selB (cOps x) && edgeB (cOps x)) = true) (h : JM c (cOps x) E n 0 Lk F (A :: B :: D :: D' :: Lk) k) : J c F (A :: B :: D :: D' :: Lk) (.code x :: k) := J.mask E Lk hk hm hl hse h

theorem JM.take0 {d : Nat} {v : Value} (i : Nat) (hk : ∀ h, Sat h L → Sat h Lk) (hi : ops[i]? = some o) (hc : okT ops E m i = true)
    (hy : ∀ a, OkF c.n F a → YieldsIf c.P ops.toArray (fun w => Sat (hp w) Lk) o v a) (hd : o.dst = some d) (hn : Nat.blt d c.n = true) (hm : Nat.lor m (2 ^ i) = m')
    (h : JM c ops E fuel m' Lk ((d, v) :: F) L k) : JM c ops E (fuel + 1) m Lk F L k := fun a w hse hcl hF hs => by
  unfold okT at hc
  simp only [Bool.and_eq_true] at hc hse
  obtain ⟨⟨h1, h2⟩, h5⟩ := hc
  have hedge := edge_of hse.2
  have hi' : ops.toArray[i]? = some o := by simpa using hi
  have hri := (ready_iff hedge).2 h1
  have hm2 : m' = m ||| 2 ^ i := hm.symm
  have hcl' : Closed ops.toArray (lm ops.length m') := by rw [hm2, ← lm_set]; exact closed_set hcl hri
  refine wpAnyE_first (n := 4) hi' (Region.noSelect_spec (sel_of hse.1)) (fun _ _ _ h => h) (fun e he => ancF_anc _ _ (List.all_eq_true.1 h5 e he)) fuel _ a w hcl ?_ hri (hy a hF) (hk _ hs) ?_
  · intro j oj hj hji hun hno
    have hj' : ops[j]? = some oj := by simpa using hj
    have hlt : j < ops.length := (List.getElem?_eq_some_iff.1 hj').1
    rw [lm_get, if_pos hlt] at hun
    unfold freeB at h2
    rw [hi] at h2
    exact freeGo_spec ops 0 h2 j oj hj' (by omega) (by simpa using hun) hno
  · rw [lm_set, ← hm2, hd]
    exact h _ w (by simp [hse]) hcl' (hF.put hn) hs
theorem JM.take {d : Nat} {v : Value} (i : Nat) (hk : ∀ h, Sat h L → Sat h Lk) (hi : ops[i]? = some o) (hc : okT ops E m i = true)
    (hw : wantF ops F o = some true) (hd : o.dst = some d) (hn : Nat.blt d c.n = true) (hm : Nat.lor m (2 ^ i) = m') (hp : Pur c.P F Lk o v)
    (h : JM c ops E fuel m' Lk ((d, v) :: F) L k) : JM c ops E (fuel + 1) m Lk F L k :=
  JM.take0 i hk hi hc (fun a hF => .inl ⟨wantF_ok hF hw, fun w' hs' => hp a.eval w' hF.ev hs'⟩) hd hn hm h
theorem JM.takeNo {d : Nat} (i : Nat) (hk : ∀ h, Sat h L → Sat h Lk) (hi : ops[i]? = some o) (hc : okT ops E m i = true)
    (hw : wantF ops F o = some false) (hd : o.dst = some d) (hn : Nat.blt d c.n = true) (hm : Nat.lor m (2 ^ i) = m')
    (h : JM c ops E fuel m' Lk ((d, undef) :: F) L k) : JM c ops E (fuel + 1) m Lk F L k :=
  JM.take0 i hk hi hc (fun a hF => .inr ⟨wantF_ok hF hw, rfl⟩) hd hn hm h

theorem JM.done (hr : Nat.beq (2 ^ ops.length) (m + 1) = true) (h : J c F L k) : JM c ops E fuel m Lk F L k := fun a w hse hcl hF hs => by
  have hm : m = 2 ^ ops.length - 1 := by have := Nat.eq_of_beq_eq_true hr; omega
  have hr' : Region.ready .any ops.toArray (lm ops.length m) = [] := by
    rw [List.eq_nil_iff_forall_not_mem]
    intro j hj
    obtain ⟨h0, o, ho, _⟩ := mem_ready.1 hj
    have hlt : j < ops.length := by
      have : ops[j]? = some o := by simpa using ho
      exact (List.getElem?_eq_some_iff.1 this).1
    rw [lm_get, if_pos hlt, hm, Nat.testBit_two_pow_sub_one] at h0
    simp [hlt] at h0
  cases fuel with
  | zero => exact ⟨hr', rfl, h a w hF hs⟩
  | succ n => exact ⟨fun _ => ⟨rfl, h a w hF hs⟩, by rw [hr']; simp⟩

theorem JM.many {rs : List Nat} (hr : (List.range ops.length).filter (readyB ops m) = rs) (hne : rs.isEmpty = false) (h : ∀ i ∈ rs, JMi c ops E fuel m i Lk F L k) : JM c ops E (fuel + 1) m Lk F L k := fun a w hse hcl hF hs => by
  have hse' := hse
  simp only [Bool.and_eq_true] at hse'
  have hedge := edge_of hse'.2
  have hiff : ∀ j, j ∈ Region.ready .any ops.toArray (lm ops.length m) ↔ j ∈ rs := by
    intro j
    rw [ready_iff hedge, ← hr, List.mem_filter, List.mem_range]
    constructor
    · intro hj
      refine ⟨?_, hj⟩
      unfold readyB at hj
      cases ho : ops[j]? with
      | none => simp [ho] at hj
      | some o => exact (List.getElem?_eq_some_iff.1 ho).1
    · exact fun hj => hj.2
  refine ⟨fun h0 => ?_, fun j hj => ?_⟩
  · cases rs with
    | nil => simp at hne
    | cons x r => have := (hiff x).2 (by simp); rw [h0] at this; cases this
  · rw [lm_set]
    exact h j ((hiff j).1 hj) a w hse (by rw [← lm_set]; exact closed_set hcl hj) hF hs
theorem JM.one (hr : (List.range ops.length).filter (readyB ops m) = [i]) (h : JMi c ops E fuel m i Lk F L k) : JM c ops E (fuel + 1) m Lk F L k :=
  JM.many hr rfl (fun j hj => by simp only [List.mem_singleton] at hj; subst hj; exact h)

theorem JMi.eff {d : Nat} {Q : Value → List Asn → Prop} (hi : ops[i]? = some o) (hw : wantF ops F o = some true) (hd : o.dst = some d) (hn : Nat.blt d c.n = true) (hm : Nat.lor m (2 ^ i) = m') (he : Eff c.P F L o Q)
    (h : ∀ v M, Q v M → (i ∈ E ∨ ∀ h, Sat h M → Sat h Lk) ∧ JM c ops E fuel m' Lk ((d, v) :: F) M k) : JMi c ops E fuel m i Lk F L k := fun a w hse hcl hF hs => by
  unfold wpOp
  have hm2 : m ||| 2 ^ i = m' := hm
  simp only [List.getElem?_toArray, hi]
  rw [if_pos (wantF_ok hF hw)]
  rw [hm2] at hcl ⊢
  refine .inl (he a w hF.nodef hF.ev hs _ _ fun v w' M hq hs' hv => ?_)
  rw [hd, ← Qk.to hv]
  exact ⟨(h v M hq).1.imp id (fun g => g _ hs'), (h v M hq).2 _ _ hse hcl (hF.put hn) hs'⟩
theorem JMi.effN {Q : Value → List Asn → Prop} (hi : ops[i]? = some o) (hw : wantF ops F o = some true) (hd : o.dst = none) (hm : Nat.lor m (2 ^ i) = m') (he : Eff c.P F L o Q)
    (h : ∀ v M, Q v M → (i ∈ E ∨ ∀ h, Sat h M → Sat h Lk) ∧ JM c ops E fuel m' Lk F M k) : JMi c ops E fuel m i Lk F L k := fun a w hse hcl hF hs => by
  unfold wpOp
  have hm2 : m ||| 2 ^ i = m' := hm
  simp only [List.getElem?_toArray, hi]
  rw [if_pos (wantF_ok hF hw)]
  rw [hm2] at hcl ⊢
  refine .inl (he a w hF.nodef hF.ev hs _ _ fun v w' M hq hs' hv => ?_)
  rw [hd, ← Qk.to hv]
  exact ⟨(h v M hq).1.imp id (fun g => g _ hs'), (h v M hq).2 _ _ hse hcl hF.none hs'⟩
theorem JMi.effR {d : Nat} {v0 : Value} (hk : ∀ h, Sat h L → Sat h Lk) (hi : ops[i]? = some o) (hw : wantF ops F o = some true) (hd : o.dst = some d) (hn : Nat.blt d c.n = true) (hm : Nat.lor m (2 ^ i) = m') (he : Eff c.P F L o (fun v M => v = v0 ∧ M = L))
    (h : JM c ops E fuel m' Lk ((d, v0) :: F) L k) : JMi c ops E fuel m i Lk F L k :=
  JMi.eff hi hw hd hn hm he (fun v M ⟨e1, e2⟩ => by rw [e1, e2]; exact ⟨.inr hk, h⟩)
theorem JMi.noN (hi : ops[i]? = some o) (hw : wantF ops F o = some false) (hd : o.dst = none) (hm : Nat.lor m (2 ^ i) = m') (hk : ∀ h, Sat h L → Sat h Lk)
    (h : JM c ops E fuel m' Lk F L k) : JMi c ops E fuel m i Lk F L k := fun a w hse hcl hF hs => by
  unfold wpOp
  have hm2 : m ||| 2 ^ i = m' := hm
  simp only [List.getElem?_toArray, hi]
  rw [if_neg (by rw [wantF_ok hF hw]; simp), hd]
  rw [hm2] at hcl ⊢
  exact ⟨.inr (hk _ hs), h _ _ hse hcl hF.none hs⟩
theorem JMi.no {d : Nat} (hi : ops[i]? = some o) (hw : wantF ops F o = some false) (hd : o.dst = some d) (hn : Nat.blt d c.n = true) (hm : Nat.lor m (2 ^ i) = m') (hk : ∀ h, Sat h L → Sat h Lk)
    (h : JM c ops E fuel m' Lk ((d, undef) :: F) L k) : JMi c ops E fuel m i Lk F L k := fun a w hse hcl hF hs => by
  unfold wpOp
  have hm2 : m ||| 2 ^ i = m' := hm
  simp only [List.getElem?_toArray, hi]
  rw [if_neg (by rw [wantF_ok hF hw]; simp), hd]
  rw [hm2] at hcl ⊢
  exact ⟨.inr (hk _ hs), h _ _ hse hcl (hF.put hn) hs⟩
theorem JM.splitB {b : Bool} (t : Nat) (ht : get F t = some (.bool b)) (h1 : b = true → JM c ops E fuel m Lk ((t, .bool true) :: F) L k) (h2 : b = false → JM c ops E fuel m Lk ((t, .bool false) :: F) L k) : JM c ops E fuel m Lk F L k := fun a w hse hcl hF hs => by
  cases b
  · exact h2 rfl a w hse hcl (get_split ht hF) hs
  · exact h1 rfl a w hse hcl (get_split ht hF) hs
theorem JM.setv {u u' : Value} (t : Nat) (ht : get F t = some u) (e : u = u') (h : JM c ops E fuel m Lk ((t, u') :: F) L k) : JM c ops E fuel m Lk F L k := fun a w hse hcl hF hs => h a w hse hcl (get_set (e ▸ ht) hF) hs
theorem JM.pull {A : Asn} {R : List Asn} (hp : Pull A L R) (h : JM c ops E fuel m Lk F (A :: R) k) : JM c ops E fuel m Lk F L k := fun a w hse hcl hF hs => h a w hse hcl hF (hs.perm hp.perm)
theorem JM.fact {p : Prop} (hp : ∀ h, Sat h L → p) (h : p → JM c ops E fuel m Lk F L k) : JM c ops E fuel m Lk F L k := fun a w hse hcl hF hs => h (hp _ hs) a w hse hcl hF hs
theorem JM.imp {M : List Asn} (hL : ∀ h, Sat h L → Sat h M) (h : JM c ops E fuel m Lk F M k) : JM c ops E fuel m Lk F L k := fun a w hse hcl hF hs => h a w hse hcl hF (hL _ hs)
end rules
end Go.KK
