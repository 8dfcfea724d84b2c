/-
  A part of the proof of the claim that this folder bears.
-/
import Derived.Test.YtoikjjpleonllaaPAE
import Derived.Test.YtoikjjpleonllaaPAH
/- The text GKahn. -/
set_option linter.unusedVariables false
set_option linter.unusedSimpArgs false
/-! Messages in flight, as a set of names. -/
namespace Gr
open Go Go.KK
theorem wr_add (x y : Int) : wr (wr x + y) = wr (x + y) := by
  unfold wr; simp [IntKind.wrap, IntKind.bits, IntKind.signed]; omega
section
variable {ι : Type} (f : ι → Ms)
def FlyIs (T : ι → Prop) (fly : List Ms) : Prop := fly.Nodup ∧ ∀ m, m ∈ fly ↔ ∃ i, T i ∧ m = f i
variable {f}
theorem FlyIs.congr {T T' : ι → Prop} {fly : List Ms} (h : FlyIs f T fly) (e : ∀ i, T' i ↔ T i) : FlyIs f T' fly :=
  ⟨h.1, fun m => (h.2 m).trans ⟨fun ⟨i, a, b⟩ => ⟨i, (e i).2 a, b⟩, fun ⟨i, a, b⟩ => ⟨i, (e i).1 a, b⟩⟩⟩
theorem FlyIs.get {T : ι → Prop} {fly : List Ms} (h : FlyIs f T fly) {m : Ms} (hm : m ∈ fly) : ∃ i, T i ∧ m = f i := (h.2 m).1 hm
theorem FlyIs.none {T : ι → Prop} {fly : List Ms} (h : FlyIs f T fly) (e : fly = []) (i : ι) : ¬ T i := fun g => by
  have := (h.2 (f i)).2 ⟨i, g, rfl⟩
  rw [e] at this; cases this
theorem FlyIs.nil {T : ι → Prop} (e : ∀ i, ¬ T i) : FlyIs f T [] := ⟨List.nodup_nil, fun m => ⟨(fun h => by cases h), fun ⟨i, a, _⟩ => absurd a (e i)⟩⟩
theorem FlyIs.add (hf : ∀ i j, f i = f j → i = j) {T : ι → Prop} {fly : List Ms} (h : FlyIs f T fly) {i : ι} (hi : ¬ T i) : FlyIs f (fun j => T j ∨ j = i) (fly ++ [f i]) := by
  refine ⟨?_, fun m => ?_⟩
  · rw [List.nodup_append]
    refine ⟨h.1, by simp, fun a ha b hb => ?_⟩
    rw [List.mem_singleton.1 hb]
    intro e
    obtain ⟨j, hj, e2⟩ := (h.2 a).1 ha
    exact hi (hf j i (e2.symm.trans e) ▸ hj)
  · rw [List.mem_append, h.2 m, List.mem_singleton]
    constructor
    · rintro (⟨j, a, b⟩ | rfl)
      · exact ⟨j, .inl a, b⟩
      · exact ⟨i, .inr rfl, rfl⟩
    · rintro ⟨j, a | rfl, b⟩
      · exact .inl ⟨j, a, b⟩
      · exact .inr b
theorem FlyIs.addL (hf : ∀ i j, f i = f j → i = j) : ∀ {ns : List ι} {T : ι → Prop} {fly : List Ms}, FlyIs f T fly → ns.Nodup → (∀ i ∈ ns, ¬ T i) → FlyIs f (fun j => T j ∨ j ∈ ns) (fly ++ ns.map f)
  | [], T, fly, h, _, _ => by
    rw [List.map_nil, List.append_nil]
    exact h.congr fun i => ⟨fun g => g.resolve_right (by simp), .inl⟩
  | i :: ns, T, fly, h, hn, hi => by
    obtain ⟨n1, n2⟩ := List.nodup_cons.1 hn
    have h1 := h.add hf (hi i (List.mem_cons_self ..))
    have h2 := FlyIs.addL hf h1 n2 fun j hj g => by
      rcases g with g | rfl
      · exact hi j (List.mem_cons_of_mem _ hj) g
      · exact n1 hj
    rw [List.append_assoc] at h2
    refine FlyIs.congr h2 fun j => ?_
    rw [List.mem_cons, or_assoc]
theorem mem_but {α : Type} {l : List α} (hn : l.Nodup) {k : Nat} {m : α} (hk : l[k]? = some m) (x : α) : x ∈ l.take k ++ l.drop (k + 1) ↔ x ∈ l ∧ x ≠ m := by
  obtain ⟨hl, e⟩ := List.getElem?_eq_some_iff.1 hk
  have h1 : l = l.take k ++ (m :: l.drop (k + 1)) := by rw [← e, ← List.drop_eq_getElem_cons hl, List.take_append_drop]
  have h2 : (l.take k ++ (m :: l.drop (k + 1))).Nodup := by rw [← h1]; exact hn
  rw [List.nodup_append] at h2
  obtain ⟨a1, a2, a3⟩ := h2
  obtain ⟨b1, b2⟩ := List.nodup_cons.1 a2
  constructor
  · intro hx
    rcases List.mem_append.1 hx with hx | hx
    · exact ⟨List.mem_of_mem_take hx, fun e => a3 x hx m (List.mem_cons_self ..) e⟩
    · exact ⟨List.mem_of_mem_drop hx, fun e => b1 (e ▸ hx)⟩
  · rintro ⟨hx, hm⟩
    rw [h1] at hx
    rcases List.mem_append.1 hx with hx | hx
    · exact List.mem_append_left _ hx
    · rcases List.mem_cons.1 hx with rfl | hx
      · exact absurd rfl hm
      · exact List.mem_append_right _ hx
theorem nodup_but {α : Type} {l : List α} (hn : l.Nodup) {k : Nat} : (l.take k ++ l.drop (k + 1)).Nodup := by
  have : (l.take k ++ l.drop (k + 1)).Sublist l := by
    conv => rhs; rw [← List.take_append_drop k l]
    exact List.Sublist.append (List.Sublist.refl _) (by rw [← List.drop_drop]; exact List.drop_sublist _ _)
  exact this.nodup hn
theorem FlyIs.del (hf : ∀ i j, f i = f j → i = j) {T : ι → Prop} {fly : List Ms} (h : FlyIs f T fly) {k : Nat} {i : ι} (hk : fly[k]? = some (f i)) : FlyIs f (fun j => T j ∧ j ≠ i) (fly.take k ++ fly.drop (k + 1)) := by
  refine ⟨nodup_but h.1, fun m => ?_⟩
  rw [mem_but h.1 hk, h.2 m]
  constructor
  · rintro ⟨⟨j, a, rfl⟩, b⟩
    exact ⟨j, ⟨a, fun e => b (e ▸ rfl)⟩, rfl⟩
  · rintro ⟨j, ⟨a, b⟩, rfl⟩
    exact ⟨⟨j, a, rfl⟩, fun e => b (hf _ _ e)⟩
end
/-- One more counts. -/
theorem cnt_one {ι : Type} [DecidableEq ι] {D : ι → Bool} {i : ι} (hD : D i = false) : ∀ {ids : List ι}, ids.Nodup → i ∈ ids → (ids.filter fun j => D j || decide (j = i)).length = (ids.filter D).length + 1
  | [], _, h => by cases h
  | j :: ids, hn, h => by
    obtain ⟨n1, n2⟩ := List.nodup_cons.1 hn
    rcases List.mem_cons.1 h with rfl | h
    · rw [List.filter_cons_of_pos (by simp), List.filter_cons_of_neg (by simp [hD]), List.length_cons]
      congr 2
      apply List.filter_congr
      intro x hx
      have : x ≠ i := fun e => n1 (e ▸ hx)
      simp [this]
    · have hji : j ≠ i := fun e => n1 (e ▸ h)
      have ih := cnt_one (D := D) hD n2 h
      by_cases hj : D j = true
      · rw [List.filter_cons_of_pos (by simp [hj]), List.filter_cons_of_pos hj, List.length_cons, List.length_cons, ih]
      · rw [List.filter_cons_of_neg (by simp [hj, hji]), List.filter_cons_of_neg hj, ih]
theorem lookI_set (m : List (Int × Int)) (k v x : Int) : lookI (setI m k v) x = if x = k then some v else lookI m x := by
  unfold setI
  cases e : lookI m k with
  | none =>
    simp only [Option.isSome_none, Bool.false_eq_true, if_false]
    unfold lookI at *
    rw [List.find?_append]
    by_cases h : x = k
    · subst h
      have : m.find? (fun p => decide (x = p.1)) = none := by simpa using e
      rw [this]; simp
    · rw [if_neg h]
      cases e2 : m.find? (fun p => decide (x = p.1)) with
      | none => simp [h]
      | some p => simp
  | some s =>
    simp only [Option.isSome_some, if_true]
    unfold lookI at *
    induction m with
    | nil => simp at e
    | cons p m ih =>
      rw [List.map_cons]
      by_cases hk : k = p.1
      · by_cases hx : x = k
        · rw [if_pos hx, if_pos hk, List.find?_cons_of_pos (by simp [hx, hk])]; rfl
        · have hxp : ¬ x = p.1 := fun g => hx (g.trans hk.symm)
          rw [if_pos hk, List.find?_cons_of_neg (by simpa using hxp), List.find?_cons_of_neg (by simpa using hxp), if_neg hx]
          clear ih e
          congr 1
          induction m with
          | nil => rfl
          | cons q m ih2 =>
            rw [List.map_cons]
            by_cases hq : k = q.1
            · have hxq : ¬ x = q.1 := fun g => hx (g.trans hq.symm)
              rw [if_pos hq, List.find?_cons_of_neg (by simpa using hxq), List.find?_cons_of_neg (by simpa using hxq)]; exact ih2
            · rw [if_neg hq]
              by_cases hxq : x = q.1
              · rw [List.find?_cons_of_pos (by simpa using hxq), List.find?_cons_of_pos (by simpa using hxq)]
              · rw [List.find?_cons_of_neg (by simpa using hxq), List.find?_cons_of_neg (by simpa using hxq)]; exact ih2
      · rw [List.find?_cons_of_neg (by simpa using hk)] at e
        rw [if_neg hk]
        by_cases hxp : x = p.1
        · have hx : ¬ x = k := fun g => hk (g.symm.trans hxp)
          rw [List.find?_cons_of_pos (by simpa using hxp), List.find?_cons_of_pos (by simpa using hxp), if_neg hx]
        · rw [List.find?_cons_of_neg (by simpa using hxp), List.find?_cons_of_neg (by simpa using hxp)]; exact ih e
theorem setI_len {m : List (Int × Int)} {k v : Int} (h : lookI m k = none) : (setI m k v).length = m.length + 1 := by
  unfold setI; rw [h]; simp
theorem mem_setM {g : Gs} {p : Nat} {m : Mm} (h : p < g.ms.length) (q : Nat) : mem (setM g p m) q = if q = p then m else mem g q := by
  by_cases e : q = p
  · rw [if_pos e, e, mem_set h]
  · rw [if_neg e]; unfold mem setM
    rw [List.getD_eq_getElem?_getD, List.getElem?_set, if_neg (Ne.symm e), ← List.getD_eq_getElem?_getD]
theorem mem_pk (g : Gs) (p : Nat) (v : Int) (cs : List Nat) (q : Nat) : mem (pk g p v cs) q = mem g q := by unfold mem; rw [pk_ms]
theorem pk_sent (p : Nat) (v : Int) : ∀ (cs : List Nat) (g : Gs) (x : Int), g.sent = wr x → (pk g p v cs).sent = wr (x + (cs.length : Int))
  | [], g, x, h => by rw [show (pk g p v []).sent = g.sent from rfl, h]; simp
  | c :: cs, g, x, h => by
    have := pk_sent p v cs (put g ⟨p, c, v, false, 0⟩) (x + 1) (by show wr (g.sent + 1) = _; rw [h, wr_add])
    rw [show (pk g p v (c :: cs)) = pk (put g ⟨p, c, v, false, 0⟩) p v cs from rfl, this, List.length_cons]
    congr 1; omega
end Gr

/- The text GTI. -/
set_option linter.unusedVariables false
set_option linter.unusedSimpArgs false
/-! What is kept while a collective of a tree goes on. -/
namespace Gr
open Go Go.KK
set_option synthInstance.maxHeartbeats 400000 in
set_option synthInstance.maxSize 2000 in
theorem ch_par : ∀ n, n < 9 → ∀ root, root < n → ∀ p, p < n → ∀ c, c < n → (c ∈ chP n root p ↔ c ≠ root ∧ parP n root c = p) := by decide +kernel
theorem ch_nodup : ∀ n, n < 9 → ∀ root, root < n → ∀ p, p < n → (chP n root p).Nodup := by decide +kernel
set_option synthInstance.maxHeartbeats 400000 in
set_option synthInstance.maxSize 2000 in
theorem ch_rk : ∀ n, n < 9 → ∀ root, root < n → ∀ p, p < n → ∀ c, c < n → c ∈ chP n root p → rk n root p < rk n root c := by decide +kernel
def subF (n root : Nat) (o : ByteArray) (vs : Nat → Int) : Nat → Nat → Int
  | 0, c => vs c
  | f + 1, c => (chP n root c).foldl (fun a x => opV o a (subF n root o vs f x)) (vs c)
theorem foldl_congr {α β : Type} {f g : β → α → β} : ∀ {l : List α} {b : β}, (∀ x ∈ l, ∀ b, f b x = g b x) → l.foldl f b = l.foldl g b
  | [], _, _ => rfl
  | x :: l, b, h => by
    rw [List.foldl_cons, List.foldl_cons, h x (List.mem_cons_self ..)]
    exact foldl_congr fun y hy => h y (List.mem_cons_of_mem _ hy)
theorem subF_fix {n root : Nat} (hn : n < 9) (hr : root < n) (o : ByteArray) (vs : Nat → Int) : ∀ f c, c < n → n ≤ f + rk n root c → subF n root o vs (f + 1) c = subF n root o vs f c
  | 0, c, hc, h => by have := rk_lt (n := n) (root := root) (p := c) (by omega); omega
  | f + 1, c, hc, h => by
    show (chP n root c).foldl (fun a x => opV o a (subF n root o vs (f + 1) x)) (vs c) = (chP n root c).foldl (fun a x => opV o a (subF n root o vs f x)) (vs c)
    refine foldl_congr fun x hx b => ?_
    have hxn := ch_lt hx (by omega)
    have := ch_rk n hn root hr c hc x hxn hx
    rw [subF_fix hn hr o vs f x hxn (by omega)]
def sub (n root : Nat) (o : ByteArray) (vs : Nat → Int) (c : Nat) : Int := subF n root o vs n c
theorem sub_eq {n root : Nat} (hn : n < 9) (hr : root < n) (o : ByteArray) (vs : Nat → Int) {c : Nat} (hc : c < n) : sub n root o vs c = (chP n root c).foldl (fun a x => opV o a (sub n root o vs x)) (vs c) := by
  unfold sub
  rw [← subF_fix hn hr o vs n c hc (by omega)]; rfl
/-- The names of the messages: of whom, and whether upward. -/
abbrev Id := Nat × Bool
section
variable (n root : Nat) (kd o : ByteArray) (vs : Nat → Int)
def tot : Int := if kd = sCast then vs root else sub n root o vs root
def mOf : Id → Ms
  | (c, true) => ⟨c, parP n root c, sub n root o vs c, true, 0⟩
  | (c, false) => ⟨parP n root c, c, tot n root kd o vs, false, 0⟩
def comb (D : Id → Bool) (p : Nat) : Prop := ∀ c ∈ chP n root p, D (c, true) = true
def Hs (D : Id → Bool) (p : Nat) : Prop := if p = root then (kd = sCast ∨ comb n root D root) else D (p, false) = true
def SD (D : Id → Bool) : Id → Prop
  | (c, true) => ¬ kd = sCast ∧ c < n ∧ c ≠ root ∧ comb n root D c
  | (c, false) => ¬ kd = sRed ∧ c < n ∧ c ≠ root ∧ Hs n root kd D (parP n root c)
theorem mOf_inj : ∀ i j : Id, mOf n root kd o vs i = mOf n root kd o vs j → i = j
  | (c, true), (d, true), h => by unfold mOf at h; injection h with h1; rw [h1]
  | (c, false), (d, false), h => by unfold mOf at h; injection h with h1 h2; rw [h2]
  | (c, true), (d, false), h => by unfold mOf at h; injection h with h1 h2 h3 h4; cases h4
  | (c, false), (d, true), h => by unfold mOf at h; injection h with h1 h2 h3 h4; cases h4
def onD (D : Id → Bool) (i : Id) : Id → Bool := fun j => D j || decide (j = i)
structure TI (t : Nat) (D : Id → Bool) (g : Gs) : Prop where
  hn : n < 9
  hr : root < n
  len : g.ms.length = n
  hkd : g.kind = kd
  hroot : g.root = (root : Int)
  hop : g.op = o
  hwf : wf g
  val : ∀ p, p < n → (mem g p).v = vs p
  got : ∀ p, p < n → ∀ c : Nat, c < n → lookI (mem g p).got (c : Int) = if c ∈ chP n root p ∧ D (c, true) = true then some (sub n root o vs c) else none
  gl : ∀ p, p < n → (mem g p).got.length = ((chP n root p).filter fun c => D (c, true)).length
  has : ∀ p, p < n → ((mem g p).has = true ↔ Hs n root kd D p)
  res : ∀ p, p < n → Hs n root kd D p → (mem g p).res = tot n root kd o vs
  fly : FlyIs (mOf n root kd o vs) (fun i => SD n root kd D i ∧ ¬ D i = true) g.fly
  cl : ∀ i, D i = true → SD n root kd D i
  sent : g.sent = wr ((t : Int) + (g.fly.length : Int))
  few : g.fly.length ≤ 30 + 3 * t
end
theorem on_mono {D : Id → Bool} {i j : Id} (h : D j = true) : onD D i j = true := by unfold onD; simp [h]
theorem on_self {D : Id → Bool} {i : Id} : onD D i i = true := by unfold onD; simp
theorem on_iff {D : Id → Bool} {i j : Id} : onD D i j = true ↔ D j = true ∨ j = i := by unfold onD; simp
theorem on_ne {D : Id → Bool} {i j : Id} (h : j ≠ i) : onD D i j = D j := by unfold onD; simp [h]
end Gr

/- The text GTI2. -/
set_option linter.unusedVariables false
set_option linter.unusedSimpArgs false
namespace Gr
open Go Go.KK
theorem fly_step {ι : Type} {f : ι → Ms} {S S' : ι → Prop} {D D' : ι → Bool} {i : ι} {fly : List Ms} {k : Nat} {ns : List ι} (hf : ∀ i j, f i = f j → i = j) (cl : ∀ j, D j = true → S j) (hD' : ∀ j, D' j = true ↔ D j = true ∨ j = i) (hi : S i) (hDi : ¬ D i = true)
    (h : FlyIs f (fun j => S j ∧ ¬ D j = true) fly) (hk : fly[k]? = some (f i)) (hn : ns.Nodup) (hS' : ∀ j, S' j ↔ S j ∨ j ∈ ns) (hns : ∀ j ∈ ns, ¬ S j) :
    FlyIs f (fun j => S' j ∧ ¬ D' j = true) (fly.take k ++ fly.drop (k + 1) ++ ns.map f) ∧ ∀ j, D' j = true → S' j := by
  constructor
  · refine ((h.del hf hk).addL hf hn fun j hj g => hns j hj g.1.1).congr fun j => ?_
    rw [hS', hD']
    constructor
    · rintro ⟨h1 | h1, h2⟩
      · exact .inl ⟨⟨h1, fun e => h2 (.inl e)⟩, fun e => h2 (.inr e)⟩
      · exact .inr h1
    · rintro (⟨⟨h1, h2⟩, h3⟩ | h1)
      · exact ⟨.inl h1, fun e => e.elim h2 h3⟩
      · exact ⟨.inr h1, fun e => e.elim (fun e => hns j h1 (cl j e)) (fun e => hns j h1 (e ▸ hi))⟩
  · intro j hj
    rw [hS']
    rcases (hD' j).1 hj with g | rfl
    · exact .inl (cl j g)
    · exact .inl hi
section
variable {n root : Nat} {kd o : ByteArray} {vs : Nat → Int}
structure TB (n root : Nat) (kd o : ByteArray) (vs : Nat → Int) (D : Id → Bool) (g : Gs) : Prop where
  hn : n < 9
  hr : root < n
  len : g.ms.length = n
  hkd : g.kind = kd
  hroot : g.root = (root : Int)
  hop : g.op = o
  hwf : wf g
  val : ∀ p, p < n → (mem g p).v = vs p
  got : ∀ p, p < n → ∀ c : Nat, c < n → lookI (mem g p).got (c : Int) = if c ∈ chP n root p ∧ D (c, true) = true then some (sub n root o vs c) else none
  gl : ∀ p, p < n → (mem g p).got.length = ((chP n root p).filter fun c => D (c, true)).length
variable {t : Nat} {D : Id → Bool} {g : Gs}
theorem TI.tb (h : TI n root kd o vs t D g) : TB n root kd o vs D g := ⟨h.hn, h.hr, h.len, h.hkd, h.hroot, h.hop, h.hwf, h.val, h.got, h.gl⟩
theorem TB.rt (h : TB n root kd o vs D g) : rt g = root := by unfold Gr.rt; rw [h.hroot]; simp
theorem TB.ch (h : TB n root kd o vs D g) (p : Nat) : chG g p = chP n root p := by unfold chG; rw [h.len, h.rt]
/-- A member's result. -/
theorem TB.set (h : TB n root kd o vs D g) {p : Nat} (hp : p < n) (z : Int) : TB n root kd o vs D (setM g p { mem g p with res := z, has := true }) := by
  have hl : p < g.ms.length := by rw [h.len]; exact hp
  have h9 := h.hwf.2.2.1 _ (mem_mem hl)
  refine ⟨h.hn, h.hr, by rw [set_len]; exact h.len, h.hkd, h.hroot, h.hop, wf_set h.hwf h9, fun q hq => ?_, fun q hq c hc => ?_, fun q hq => ?_⟩
  · rw [mem_setM hl]; split
    · rename_i e; rw [e]; exact h.val p hp
    · exact h.val q hq
  · rw [mem_setM hl]; split
    · rename_i e; rw [e]; exact h.got p hp c hc
    · exact h.got q hq c hc
  · rw [mem_setM hl]; split
    · rename_i e; rw [e]; exact h.gl p hp
    · exact h.gl q hq
theorem TB.put (h : TB n root kd o vs D g) {m : Ms} (hm : m.to < n ∧ m.fr < n ∧ m.rd ≤ 3) : TB n root kd o vs D (put g m) :=
  ⟨h.hn, h.hr, h.len, h.hkd, h.hroot, h.hop, wf_put h.hwf (by rw [h.len]; exact hm), h.val, h.got, h.gl⟩
theorem TB.pk (h : TB n root kd o vs D g) {p : Nat} (hp : p < n) (z : Int) (cs : List Nat) (hc : ∀ c ∈ cs, c < n) : TB n root kd o vs D (pk g p z cs) := by
  have s := sm_pk p z cs g
  refine ⟨h.hn, h.hr, s.1.trans h.len, s.2.1.trans h.hkd, s.2.2.1.trans h.hroot, s.2.2.2.trans h.hop, wf_pk h.hwf (by rw [h.len]; exact hp) z cs (by rw [h.len]; exact hc), fun q hq => ?_, fun q hq => ?_, fun q hq => ?_⟩
  · rw [mem_pk]; exact h.val q hq
  · rw [mem_pk]; exact h.got q hq
  · rw [mem_pk]; exact h.gl q hq
theorem TB.acc (h : TB n root kd o vs D g) {p : Nat} (hp : p < n) (hc : comb n root D p) : accG g p (chG g p) = sub n root o vs p := by
  rw [h.ch, sub_eq h.hn h.hr o vs hp]
  unfold accG
  rw [h.val p hp, h.hop]
  refine foldl_congr fun x hx b => ?_
  unfold getV
  rw [h.got p hp x (ch_lt hx (by omega)), if_pos ⟨hx, hc x hx⟩]; rfl
/-- What is told of results, of messages and of how many there were. -/
structure TR (n root : Nat) (kd o : ByteArray) (vs : Nat → Int) (t : Nat) (D : Id → Bool) (g : Gs) : Prop where
  has : ∀ p, p < n → ((mem g p).has = true ↔ Hs n root kd D p)
  res : ∀ p, p < n → Hs n root kd D p → (mem g p).res = tot n root kd o vs
  fly : FlyIs (mOf n root kd o vs) (fun i => SD n root kd D i ∧ ¬ D i = true) g.fly
  cl : ∀ i, D i = true → SD n root kd D i
  sent : g.sent = wr ((t : Int) + (g.fly.length : Int))
  few : g.fly.length ≤ 30 + 3 * t
theorem TB.ti (h : TB n root kd o vs D g) (r : TR n root kd o vs t D g) : TI n root kd o vs t D g := ⟨h.hn, h.hr, h.len, h.hkd, h.hroot, h.hop, h.hwf, h.val, h.got, h.gl, r.has, r.res, r.fly, r.cl, r.sent, r.few⟩
theorem TI.tr (h : TI n root kd o vs t D g) : TR n root kd o vs t D g := ⟨h.has, h.res, h.fly, h.cl, h.sent, h.few⟩
theorem but_len {α : Type} {l : List α} {k : Nat} (h : k < l.length) : (l.take k ++ l.drop (k + 1)).length + 1 = l.length := by rw [List.length_append, List.length_take, List.length_drop]; omega
/-- Behind a message that is taken out, and at most three that are put in. -/
theorem TR.go (hn : n < 9) (h : TR n root kd o vs t D g) {i : Id} {k : Nat} (hk : g.fly[k]? = some (mOf n root kd o vs i)) (hi : SD n root kd D i) (hDi : ¬ D i = true) {ns : List Id} (hnn : ns.Nodup) (h3 : ns.length ≤ 3)
    (hS : ∀ j, SD n root kd (onD D i) j ↔ SD n root kd D j ∨ j ∈ ns) (hns : ∀ j ∈ ns, ¬ SD n root kd D j) {g' : Gs} (hfl : g'.fly = g.fly.take k ++ g.fly.drop (k + 1) ++ ns.map (mOf n root kd o vs)) (hst : g'.sent = wr ((t : Int) + (g.fly.length : Int) + (ns.length : Int)))
    (hhas : ∀ p, p < n → ((mem g' p).has = true ↔ Hs n root kd (onD D i) p)) (hres : ∀ p, p < n → Hs n root kd (onD D i) p → (mem g' p).res = tot n root kd o vs) : TR n root kd o vs (t + 1) (onD D i) g' := by
  have hl := but_len (List.getElem?_eq_some_iff.1 hk).1
  have e : g'.fly.length + 1 = g.fly.length + ns.length := by rw [hfl, List.length_append, List.length_map]; omega
  obtain ⟨f1, f2⟩ := fly_step (mOf_inj n root kd o vs) h.cl (fun j => on_iff) hi hDi h.fly hk hnn hS hns
  refine ⟨hhas, hres, by rw [hfl]; exact f1, f2, by rw [hst]; congr 1; omega, ?_⟩
  have := h.few
  omega
theorem comb_up_ne (hn : n < 9) (hr : root < n) {c : Nat} (hc : c < n) {q : Nat} (hq : q < n) (h : q ≠ parP n root c) : comb n root (onD D (c, true)) q ↔ comb n root D q := by
  constructor
  · intro g x hx
    have hxn := ch_lt hx (by omega)
    rcases on_iff.1 (g x hx) with e | e
    · exact e
    · injection e with e1; subst e1
      exact absurd ((ch_par n hn root hr q hq x hc).1 hx).2.symm h
  · intro g x hx; exact on_mono (g x hx)
theorem Hs_ne {q : Nat} (h : q ≠ root) : Hs n root kd D q ↔ D (q, false) = true := by unfold Hs; rw [if_neg h]
theorem Hs_root : Hs n root kd D root ↔ (kd = sCast ∨ comb n root D root) := by unfold Hs; rw [if_pos rfl]
theorem Hs_up_ne {c q : Nat} (h : q ≠ root) : Hs n root kd (onD D (c, true)) q ↔ Hs n root kd D q := by
  rw [Hs_ne h, Hs_ne h, on_iff]
  exact ⟨fun g => g.resolve_right (by simp), .inl⟩
end
end Gr

/- The text GTI3. -/
set_option linter.unusedVariables false
set_option linter.unusedSimpArgs false
namespace Gr
open Go Go.KK
section
variable {n root : Nat} {kd o : ByteArray} {vs : Nat → Int} {t : Nat} {D : Id → Bool} {g : Gs}
theorem TB.cast (h : TB n root kd o vs D g) {p : Nat} (hp : p < n) (z : Int) : TB n root kd o vs D (castG g p z) := by
  have h1 := h.set hp z
  exact h1.pk hp z _ fun c hc => by rw [h.ch] at hc; exact ch_lt hc (by omega)
theorem TB.cast_fly (h : TB n root kd o vs D g) {p : Nat} (hp : p < n) : (castG g p (tot n root kd o vs)).fly = g.fly ++ ((chP n root p).map fun q => (q, false)).map (mOf n root kd o vs) := by
  unfold castG
  rw [pk_fly, h.ch, List.map_map]
  congr 1
  apply List.map_congr_left
  intro q hq
  have := (ch_par n h.hn root h.hr p hp q (ch_lt hq (by have := h.hr; omega))).1 hq
  show _ = (⟨parP n root q, q, tot n root kd o vs, false, 0⟩ : Ms)
  rw [this.2]
theorem TB.cast_mem (h : TB n root kd o vs D g) {p : Nat} (hp : p < n) (z : Int) (q : Nat) : mem (castG g p z) q = if q = p then { mem g p with res := z, has := true } else mem g q := by
  unfold castG
  rw [mem_pk, mem_setM (by rw [h.len]; exact hp)]
theorem TB.cast_sent (h : TB n root kd o vs D g) {p : Nat} (z x : Int) (hs : g.sent = wr x) : (castG g p z).sent = wr (x + ((chP n root p).length : Int)) := by
  unfold castG
  rw [← h.ch p]
  exact pk_sent p z _ _ x hs
theorem ns_nodup {l : List Nat} (h : l.Nodup) : (l.map fun q => ((q, false) : Id)).Nodup := by
  induction l with
  | nil => exact List.nodup_nil
  | cons a l ih =>
    obtain ⟨h1, h2⟩ := List.nodup_cons.1 h
    rw [List.map_cons, List.nodup_cons]
    refine ⟨fun g => ?_, ih h2⟩
    obtain ⟨b, hb, e⟩ := List.mem_map.1 g
    injection e with e1
    exact h1 (e1 ▸ hb)
theorem ns_mem {l : List Nat} {j : Id} : j ∈ (l.map fun q => ((q, false) : Id)) ↔ j.2 = false ∧ j.1 ∈ l := by
  constructor
  · intro h; obtain ⟨q, hq, rfl⟩ := List.mem_map.1 h; exact ⟨rfl, hq⟩
  · rintro ⟨h1, h2⟩; exact List.mem_map.2 ⟨j.1, h2, by rw [← h1]⟩
/-- A message downward comes. -/
theorem TI.dn (h : TI n root kd o vs t D g) {c k : Nat} (hk : g.fly[k]? = some (mOf n root kd o vs (c, false))) (hi : SD n root kd D (c, false)) (hDi : ¬ D (c, false) = true) : TI n root kd o vs (t + 1) (onD D (c, false)) (dlvT g k) := by
  obtain ⟨hkr, hc, hcr, hH⟩ := id hi
  have hn := h.hn
  have hr := h.hr
  have hl := (List.getElem?_eq_some_iff.1 hk).1
  have hm : msg g k = mOf n root kd o vs (c, false) := Option.some.inj ((msg_get hl).symm.trans hk)
  have he : dlvT g k = castG (takeM g k) c (tot n root kd o vs) := by unfold dlvT; rw [hm]; rfl
  rw [he]
  have hup : ∀ x, onD D (c, false) (x, true) = D (x, true) := fun x => on_ne (by simp)
  have hcomb : ∀ q, comb n root (onD D (c, false)) q ↔ comb n root D q := fun q => by unfold comb; simp only [hup]
  have hT : TB n root kd o vs (onD D (c, false)) (takeM g k) := ⟨hn, hr, h.len, h.hkd, h.hroot, h.hop, wf_take h.hwf k, h.val, fun p hp x hx => by rw [hup]; exact h.got p hp x hx, fun p hp => by simp only [hup]; exact h.gl p hp⟩
  have hHs : ∀ q, Hs n root kd (onD D (c, false)) q ↔ Hs n root kd D q ∨ q = c := fun q => by
    by_cases e : q = root
    · subst e
      rw [Hs_root, Hs_root, hcomb]
      exact ⟨.inl, fun g => g.resolve_right (Ne.symm hcr)⟩
    · rw [Hs_ne e, Hs_ne e, on_iff]
      constructor
      · rintro (g | g)
        · exact .inl g
        · injection g with g1; exact .inr g1
      · rintro (g | rfl)
        · exact .inl g
        · exact .inr rfl
  have hnc : ¬ Hs n root kd D c := by rw [Hs_ne hcr]; exact hDi
  refine (hT.cast hc _).ti (TR.go hn h.tr hk hi hDi (ns := (chP n root c).map fun q => (q, false)) (ns_nodup (ch_nodup n hn root hr c hc)) (by rw [List.length_map]; exact chP_len _ _ _) ?_ ?_ ?_ ?_ ?_ ?_)
  · rintro ⟨q, b⟩
    cases b
    · rw [ns_mem]
      show (¬ kd = sRed ∧ q < n ∧ q ≠ root ∧ Hs n root kd _ (parP n root q)) ↔ (¬ kd = sRed ∧ q < n ∧ q ≠ root ∧ Hs n root kd D (parP n root q)) ∨ _
      rw [hHs]
      constructor
      · rintro ⟨a1, a2, a3, a4 | a4⟩
        · exact .inl ⟨a1, a2, a3, a4⟩
        · exact .inr ⟨rfl, (ch_par n hn root hr c hc q a2).2 ⟨a3, a4⟩⟩
      · rintro (⟨a1, a2, a3, a4⟩ | ⟨_, a⟩)
        · exact ⟨a1, a2, a3, .inl a4⟩
        · have hqn := ch_lt a (by omega)
          have := (ch_par n hn root hr c hc q hqn).1 a
          exact ⟨hkr, hqn, this.1, .inr this.2⟩
    · show (¬ kd = sCast ∧ q < n ∧ q ≠ root ∧ comb n root _ q) ↔ (¬ kd = sCast ∧ q < n ∧ q ≠ root ∧ comb n root D q) ∨ _
      rw [hcomb, ns_mem]
      exact ⟨.inl, fun g => g.resolve_right (by simp)⟩
  · intro j hj g1
    obtain ⟨h1, h2⟩ := ns_mem.1 hj
    obtain ⟨q, b⟩ := j
    subst h1
    obtain ⟨a1, a2, a3, a4⟩ := g1
    rw [((ch_par n hn root hr c hc q a2).1 h2).2] at a4
    exact hnc a4
  · exact hT.cast_fly hc
  · rw [hT.cast_sent (tot n root kd o vs) _ h.sent, List.length_map]
  · intro p hp
    rw [hT.cast_mem hc, hHs]
    split
    · rename_i e; subst e; exact ⟨fun _ => .inr rfl, fun _ => rfl⟩
    · rename_i e
      exact (h.has p hp).trans ⟨.inl, fun g => g.resolve_right e⟩
  · intro p hp hh
    rw [hT.cast_mem hc]
    split
    · rfl
    · rename_i e
      exact h.res p hp ((hHs p).1 hh |>.resolve_right e)
/-- A message upward comes. -/
theorem TI.up (h : TI n root kd o vs t D g) {c k : Nat} (hk : g.fly[k]? = some (mOf n root kd o vs (c, true))) (hi : SD n root kd D (c, true)) (hDi : ¬ D (c, true) = true) : TI n root kd o vs (t + 1) (onD D (c, true)) (dlvT g k) := by
  obtain ⟨hnc, hc, hcr, hcc⟩ := id hi
  have hn := h.hn
  have hr := h.hr
  have hl := (List.getElem?_eq_some_iff.1 hk).1
  have hm : msg g k = mOf n root kd o vs (c, true) := Option.some.inj ((msg_get hl).symm.trans hk)
  obtain ⟨p, hpe⟩ : ∃ p, p = parP n root c := ⟨_, rfl⟩
  have hp : p < n := by rw [hpe]; exact par_lt (by omega)
  have hcp : c ∈ chP n root p := (ch_par n hn root hr p hp c hc).2 ⟨hcr, hpe.symm⟩
  have hlp : p < (takeM g k).ms.length := by show p < g.ms.length; rw [h.len]; exact hp
  have hDc : D (c, true) = false := by simpa using hDi
  have hgot : gotU g (msg g k) = { mem g p with got := setI (mem g p).got (c : Int) (sub n root o vs c) } := by rw [hm, hpe]; rfl
  have hX : upG g k = setM (takeM g k) p { mem g p with got := setI (mem g p).got (c : Int) (sub n root o vs c) } := by unfold upG; rw [hgot, hm, hpe]; rfl
  have hlk : lookI (mem g p).got (c : Int) = none := by rw [h.got p hp c hc, if_neg (by rw [hDc]; simp)]
  have hne : ∀ {q x : Nat}, q < n → q ≠ p → x ∈ chP n root q → x ≠ c := fun {q x} hq hqp hx e => by
    subst e
    exact hqp (((ch_par n hn root hr q hq x hc).1 hx).2.symm.trans hpe.symm)
  have hup : ∀ x, x ≠ c → onD D (c, true) (x, true) = D (x, true) := fun x hx => on_ne (by simpa using hx)
  have hmX : ∀ q, mem (upG g k) q = if q = p then { mem g p with got := setI (mem g p).got (c : Int) (sub n root o vs c) } else mem g q := fun q => by rw [hX, mem_setM hlp]; rfl
  have hT : TB n root kd o vs (onD D (c, true)) (upG g k) := by
    have h9 := h.hwf.2.2.1 _ (mem_mem (show p < g.ms.length by rw [h.len]; exact hp))
    refine ⟨hn, hr, by rw [hX, set_len]; exact h.len, by rw [hX]; exact h.hkd, by rw [hX]; exact h.hroot, by rw [hX]; exact h.hop, by rw [hX]; exact wf_set (wf_take h.hwf k) h9, fun q hq => ?_, fun q hq x hx => ?_, fun q hq => ?_⟩
    · rw [hmX]; split
      · rename_i e; rw [e]; exact h.val p hp
      · exact h.val q hq
    · rw [hmX]; split
      · rename_i e; subst e
        rw [show ({ mem g q with got := setI (mem g q).got (c : Int) (sub n root o vs c) } : Mm).got = setI (mem g q).got (c : Int) (sub n root o vs c) from rfl, lookI_set]
        by_cases hxc : x = c
        · subst hxc; rw [if_pos rfl, if_pos ⟨hcp, on_self⟩]
        · rw [if_neg (by omega), hup x hxc]; exact h.got q hq x hx
      · rename_i e
        rw [h.got q hq x hx]
        by_cases hxq : x ∈ chP n root q
        · rw [hup x (hne hq e hxq)]
        · rw [if_neg (fun g => hxq g.1), if_neg (fun g => hxq g.1)]
    · rw [hmX]; split
      · rename_i e; subst e
        rw [show ({ mem g q with got := setI (mem g q).got (c : Int) (sub n root o vs c) } : Mm).got = setI (mem g q).got (c : Int) (sub n root o vs c) from rfl, setI_len hlk, h.gl q hq]
        rw [← cnt_one (D := fun x => D (x, true)) (i := c) hDc (ch_nodup n hn root hr q hq) hcp]
        congr 1
        apply List.filter_congr
        intro x _
        unfold onD
        by_cases e : x = c <;> simp [e]
      · rename_i e
        rw [h.gl q hq]
        congr 1
        apply List.filter_congr
        intro x hx
        rw [hup x (hne hq e hx)]
  have hcq : ∀ q, q < n → q ≠ p → (comb n root (onD D (c, true)) q ↔ comb n root D q) := fun q hq hqp => comb_up_ne hn hr hc hq (by rw [← hpe]; exact hqp)
  have hnp : ¬ comb n root D p := fun g => hDi (g c hcp)
  have hle : ((gotU g (msg g k)).got.length = (chG g (msg g k).to).length) ↔ comb n root (onD D (c, true)) p := by
    have e1 : (gotU g (msg g k)).got.length = ((chP n root p).filter fun x => onD D (c, true) (x, true)).length := by
      have := hT.gl p hp
      rw [hmX, if_pos rfl] at this
      rw [hgot]; exact this
    have e2 : chG g (msg g k).to = chP n root p := by rw [h.tb.ch, hm, hpe]; rfl
    rw [e1, e2, List.length_filter_eq_length_iff]; exact Iff.rfl
  have hfX : (upG g k).fly = g.fly.take k ++ g.fly.drop (k + 1) := by rw [hX]; rfl
  have hsX : (upG g k).sent = g.sent := by rw [hX]; rfl
  have hhas : ∀ q, q < n → ((mem (upG g k) q).has = true ↔ Hs n root kd D q) := fun q hq => by
    rw [hmX]; split
    · rename_i e; subst e; exact h.has q hq
    · exact h.has q hq
  have hres : ∀ q, q < n → Hs n root kd D q → (mem (upG g k) q).res = tot n root kd o vs := fun q hq g1 => by
    rw [hmX]; split
    · rename_i e; subst e; exact h.res q hq g1
    · exact h.res q hq g1
  have hdec : Decidable (comb n root (onD D (c, true)) p) := Classical.propDecidable _
  have hd : dlvT g k = if comb n root (onD D (c, true)) p then combG (upG g k) p else upG g k := by
    unfold dlvT
    rw [if_pos (by rw [hm]; rfl)]
    by_cases e : comb n root (onD D (c, true)) p
    · rw [if_pos (hle.2 e), if_pos e, hm, hpe]; rfl
    · rw [if_neg (fun g => e (hle.1 g)), if_neg e]
  rw [hd]
  by_cases e : comb n root (onD D (c, true)) p
  · rw [if_pos e]
    by_cases hpr : p = root
    · -- the root
      have hrr := hT.rt
      have hacc := hT.acc hp e
      have hHs : ∀ q, Hs n root kd (onD D (c, true)) q ↔ Hs n root kd D q ∨ q = p := fun q => by
        by_cases e2 : q = root
        · subst e2; rw [Hs_root]; exact ⟨fun _ => .inr hpr.symm, fun _ => .inr (by have e5 := e; rw [hpr] at e5; exact e5)⟩
        · rw [Hs_up_ne e2]; exact ⟨.inl, fun g => g.resolve_right (by rw [hpr]; exact e2)⟩
      have htot : sub n root o vs p = tot n root kd o vs := by unfold tot; rw [if_neg hnc, hpr]
      have hSt : ∀ q, SD n root kd (onD D (c, true)) (q, true) ↔ SD n root kd D (q, true) := fun q => by
        show (¬ kd = sCast ∧ q < n ∧ q ≠ root ∧ comb n root _ q) ↔ (¬ kd = sCast ∧ q < n ∧ q ≠ root ∧ comb n root D q)
        constructor
        · rintro ⟨a1, a2, a3, a4⟩; exact ⟨a1, a2, a3, (hcq q a2 (by rw [hpr]; exact a3)).1 a4⟩
        · rintro ⟨a1, a2, a3, a4⟩; exact ⟨a1, a2, a3, (hcq q a2 (by rw [hpr]; exact a3)).2 a4⟩
      by_cases hred : kd = sRed
      · have hcg : combG (upG g k) p = setM (upG g k) p { mem (upG g k) p with res := tot n root kd o vs, has := true } := by
          unfold combG; rw [if_neg (not_not_intro (hpr.trans hrr.symm)), if_pos (hT.hkd.trans hred), hacc, htot]
        rw [hcg]
        have hlX : p < (upG g k).ms.length := by rw [hT.len]; exact hp
        refine (hT.set hp _).ti (TR.go hn h.tr hk hi hDi (ns := []) List.nodup_nil (by simp) ?_ (fun j hj => by cases hj) (by rw [List.map_nil, List.append_nil]; exact hfX) (by show (upG g k).sent = _; rw [hsX, h.sent]; simp) ?_ ?_)
        · rintro ⟨q, b⟩
          cases b
          · exact ⟨fun g => absurd hred g.1, fun g => absurd hred (g.resolve_right (by simp)).1⟩
          · rw [hSt]; exact ⟨.inl, fun g => g.resolve_right (by simp)⟩
        · intro q hq
          rw [mem_setM hlX, hHs]
          split
          · rename_i e2; exact ⟨fun _ => .inr e2, fun _ => rfl⟩
          · rename_i e2; exact (hhas q hq).trans ⟨.inl, fun g => g.resolve_right e2⟩
        · intro q hq g1
          rw [mem_setM hlX]
          split
          · rfl
          · rename_i e2; exact hres q hq (((hHs q).1 g1).resolve_right e2)
      · have hcg : combG (upG g k) p = castG (upG g k) p (tot n root kd o vs) := by
          unfold combG; rw [if_neg (not_not_intro (hpr.trans hrr.symm)), if_neg (by rw [hT.hkd]; exact hred), hacc, htot]
        rw [hcg]
        have hnH : ¬ Hs n root kd D p := by rw [hpr, Hs_root]; exact fun g => g.elim hnc (fun g1 => hnp (by rw [hpr]; exact g1))
        refine (hT.cast hp _).ti (TR.go hn h.tr hk hi hDi (ns := (chP n root p).map fun q => (q, false)) (ns_nodup (ch_nodup n hn root hr p hp)) (by rw [List.length_map]; exact chP_len _ _ _) ?_ ?_ (by rw [hT.cast_fly hp, hfX]) (by rw [hT.cast_sent _ _ (hsX.trans h.sent), List.length_map]) ?_ ?_)
        · rintro ⟨q, b⟩
          cases b
          · rw [ns_mem]
            show (¬ kd = sRed ∧ q < n ∧ q ≠ root ∧ Hs n root kd _ (parP n root q)) ↔ (¬ kd = sRed ∧ q < n ∧ q ≠ root ∧ Hs n root kd D (parP n root q)) ∨ _
            rw [hHs]
            constructor
            · rintro ⟨a1, a2, a3, a4 | a4⟩
              · exact .inl ⟨a1, a2, a3, a4⟩
              · exact .inr ⟨rfl, (ch_par n hn root hr p hp q a2).2 ⟨a3, a4⟩⟩
            · rintro (⟨a1, a2, a3, a4⟩ | ⟨_, a⟩)
              · exact ⟨a1, a2, a3, .inl a4⟩
              · have hqn := ch_lt a (by omega)
                have := (ch_par n hn root hr p hp q hqn).1 a
                exact ⟨hred, hqn, this.1, .inr this.2⟩
          · rw [hSt, ns_mem]; exact ⟨.inl, fun g => g.resolve_right (by simp)⟩
        · intro j hj g1
          obtain ⟨h1, h2⟩ := ns_mem.1 hj
          obtain ⟨q, b⟩ := j
          subst h1
          obtain ⟨a1, a2, a3, a4⟩ := g1
          rw [((ch_par n hn root hr p hp q a2).1 h2).2] at a4
          exact hnH a4
        · intro q hq
          rw [hT.cast_mem hp, hHs]
          split
          · rename_i e2; exact ⟨fun _ => .inr e2, fun _ => rfl⟩
          · rename_i e2; exact (hhas q hq).trans ⟨.inl, fun g => g.resolve_right e2⟩
        · intro q hq g1
          rw [hT.cast_mem hp]
          split
          · rfl
          · rename_i e2; exact hres q hq (((hHs q).1 g1).resolve_right e2)
    · -- not the root
      have hrp : root ≠ p := Ne.symm hpr
      have hHs : ∀ q, Hs n root kd (onD D (c, true)) q ↔ Hs n root kd D q := fun q => by
        by_cases e2 : q = root
        · subst e2; rw [Hs_root, Hs_root, hcq q hr hrp]
        · exact Hs_up_ne e2
      have hcg : combG (upG g k) p = put (upG g k) (mOf n root kd o vs (p, true)) := by
        unfold combG; rw [if_pos (by rw [hT.rt]; exact hpr), hT.acc hp e, hT.len, hT.rt]; rfl
      rw [hcg]
      refine (hT.put ⟨par_lt (by omega), hp, Nat.zero_le _⟩).ti (TR.go hn h.tr hk hi hDi (ns := [(p, true)]) (by simp) (by simp) ?_ ?_ ?_ ?_ ?_ ?_)
      · rintro ⟨q, b⟩
        cases b
        · show (¬ kd = sRed ∧ q < n ∧ q ≠ root ∧ Hs n root kd _ (parP n root q)) ↔ (¬ kd = sRed ∧ q < n ∧ q ≠ root ∧ Hs n root kd D (parP n root q)) ∨ _
          rw [hHs]; exact ⟨.inl, fun g => g.resolve_right (by simp)⟩
        · show (¬ kd = sCast ∧ q < n ∧ q ≠ root ∧ comb n root _ q) ↔ (¬ kd = sCast ∧ q < n ∧ q ≠ root ∧ comb n root D q) ∨ (q, true) ∈ [(p, true)]
          constructor
          · rintro ⟨a1, a2, a3, a4⟩
            by_cases e2 : q = p
            · exact .inr (by rw [e2]; simp)
            · exact .inl ⟨a1, a2, a3, (hcq q a2 e2).1 a4⟩
          · rintro (⟨a1, a2, a3, a4⟩ | a)
            · exact ⟨a1, a2, a3, (hcq q a2 (fun e2 => hnp (e2 ▸ a4))).2 a4⟩
            · have e2 : q = p := by simpa using a
              rw [e2]; exact ⟨hnc, hp, hpr, e⟩
      · intro j hj g1
        rw [List.mem_singleton.1 hj] at g1
        exact hnp g1.2.2.2
      · show (upG g k).fly ++ [_] = _; rw [hfX]; rfl
      · show wr ((upG g k).sent + 1) = _; rw [hsX, h.sent, wr_add]; rfl
      · intro q hq; rw [hHs]; exact hhas q hq
      · intro q hq g1; exact hres q hq ((hHs q).1 g1)
  · rw [if_neg e]
    have hcq2 : ∀ q, q < n → (comb n root (onD D (c, true)) q ↔ comb n root D q) := fun q hq => by
      by_cases e2 : q = p
      · rw [e2]; exact ⟨fun g => absurd g e, fun g => absurd g hnp⟩
      · exact hcq q hq e2
    have hHs : ∀ q, Hs n root kd (onD D (c, true)) q ↔ Hs n root kd D q := fun q => by
      by_cases e2 : q = root
      · subst e2; rw [Hs_root, Hs_root, hcq2 q hr]
      · exact Hs_up_ne e2
    refine hT.ti (TR.go hn h.tr hk hi hDi (ns := []) List.nodup_nil (by simp) ?_ (fun j hj => by cases hj) (by rw [List.map_nil, List.append_nil]; exact hfX) (by rw [hsX, h.sent]; simp) ?_ ?_)
    · rintro ⟨q, b⟩
      cases b
      · show (¬ kd = sRed ∧ q < n ∧ q ≠ root ∧ Hs n root kd _ (parP n root q)) ↔ (¬ kd = sRed ∧ q < n ∧ q ≠ root ∧ Hs n root kd D (parP n root q)) ∨ _
        rw [hHs]; exact ⟨.inl, fun g => g.resolve_right (by simp)⟩
      · show (¬ kd = sCast ∧ q < n ∧ q ≠ root ∧ comb n root _ q) ↔ (¬ kd = sCast ∧ q < n ∧ q ≠ root ∧ comb n root D q) ∨ (q, true) ∈ []
        constructor
        · rintro ⟨a1, a2, a3, a4⟩; exact .inl ⟨a1, a2, a3, (hcq2 q a2).1 a4⟩
        · rintro (⟨a1, a2, a3, a4⟩ | a)
          · exact ⟨a1, a2, a3, (hcq2 q a2).2 a4⟩
          · cases a
    · intro q hq; rw [hHs]; exact hhas q hq
    · intro q hq g1; exact hres q hq ((hHs q).1 g1)
end
end Gr

/- The text GTI4. -/
set_option linter.unusedVariables false
set_option linter.unusedSimpArgs false
namespace Gr
open Go Go.KK
def D0 : Id → Bool := fun _ => false
theorem par_rk : ∀ n, n < 9 → ∀ root, root < n → ∀ c, c < n → c ≠ root → rk n root (parP n root c) < rk n root c := by decide +kernel
def base (n root : Nat) : List Nat := (List.range n).filter fun c => decide (c ≠ root)
theorem base_len : ∀ n, n < 9 → ∀ root, root < n → (base n root).length + 1 = n := by decide +kernel
theorem base_mem {n root c : Nat} : c ∈ base n root ↔ c < n ∧ c ≠ root := by unfold base; simp
theorem base_nodup (n root : Nat) : (base n root).Nodup := List.nodup_range.sublist (List.filter_sublist)
def ids (n root : Nat) (kd : ByteArray) : List Id := (if kd = sCast then [] else (base n root).map fun c => (c, true)) ++ (if kd = sRed then [] else (base n root).map fun c => (c, false))
theorem nt_nodup {l : List Nat} (h : l.Nodup) : (l.map fun q => ((q, true) : Id)).Nodup := by
  induction l with
  | nil => exact List.nodup_nil
  | cons a l ih =>
    obtain ⟨h1, h2⟩ := List.nodup_cons.1 h
    rw [List.map_cons, List.nodup_cons]
    refine ⟨fun g => ?_, ih h2⟩
    obtain ⟨b, hb, e⟩ := List.mem_map.1 g
    injection e with e1
    exact h1 (e1 ▸ hb)
theorem ids_nodup (n root : Nat) (kd : ByteArray) : (ids n root kd).Nodup := by
  unfold ids
  rw [List.nodup_append]
  refine ⟨?_, ?_, ?_⟩
  · split
    · exact List.nodup_nil
    · exact nt_nodup (base_nodup n root)
  · split
    · exact List.nodup_nil
    · exact ns_nodup (base_nodup n root)
  · intro a ha b hb e
    subst e
    split at ha
    · cases ha
    · split at hb
      · cases hb
      · obtain ⟨x, _, rfl⟩ := List.mem_map.1 ha
        obtain ⟨y, _, e⟩ := List.mem_map.1 hb
        injection e with e1 e2; cases e2
theorem ids_mem {n root : Nat} {kd : ByteArray} {D : Id → Bool} {i : Id} (h : SD n root kd D i) : i ∈ ids n root kd := by
  obtain ⟨c, b⟩ := i
  unfold ids
  cases b
  · obtain ⟨a1, a2, a3, -⟩ := h
    rw [if_neg a1]
    exact List.mem_append_right _ (List.mem_map.2 ⟨c, base_mem.2 ⟨a2, a3⟩, rfl⟩)
  · obtain ⟨a1, a2, a3, -⟩ := h
    rw [if_neg a1]
    exact List.mem_append_left _ (List.mem_map.2 ⟨c, base_mem.2 ⟨a2, a3⟩, rfl⟩)
/-- How many messages there are. -/
def all_ (n root : Nat) (kd : ByteArray) : Nat := (ids n root kd).length
section
variable {n root : Nat} {kd o : ByteArray} {vs : Nat → Int} {t : Nat} {D : Id → Bool} {g : Gs}
def Gd (n root : Nat) (kd o : ByteArray) (vs : Nat → Int) (t : Nat) (g : Gs) : Prop := ∃ D, TI n root kd o vs t D g ∧ t = ((ids n root kd).filter D).length
theorem Gd.step (h : Gd n root kd o vs t g) {k : Nat} (hk : k < g.fly.length) : Gd n root kd o vs (t + 1) (dlvT g k) := by
  obtain ⟨D, hT, ht⟩ := h
  obtain ⟨i, ⟨h1, h2⟩, h3⟩ := hT.fly.get (List.mem_of_getElem? (msg_get hk))
  have hk2 : g.fly[k]? = some (mOf n root kd o vs i) := by rw [← h3]; exact msg_get hk
  have hc := cnt_one (D := D) (i := i) (by simpa using h2) (ids_nodup n root kd) (ids_mem h1)
  refine ⟨onD D i, ?_, by rw [ht, ← hc]; rfl⟩
  obtain ⟨c, b⟩ := i
  cases b
  · exact hT.dn hk2 h1 h2
  · exact hT.up hk2 h1 h2
theorem Gd.le (h : Gd n root kd o vs t g) : t ≤ all_ n root kd := by obtain ⟨D, hT, ht⟩ := h; rw [ht]; exact List.length_filter_le _ _
theorem all_le (hn : n < 9) (hr : root < n) : all_ n root kd ≤ 14 := by
  have := base_len n hn root hr
  unfold all_ ids
  rw [List.length_append]
  split <;> split <;> simp only [List.length_nil, List.length_map] <;> omega
/-- Whoever has a result: all places have sent upward, and that has come. -/
theorem TI.rootC (h : TI n root kd o vs t D g) (hk : ¬ kd = sCast) : ∀ f p, p < n → rk n root p ≤ f → Hs n root kd D p → comb n root D root := by
  intro f
  induction f with
  | zero =>
    intro p hp hf hh
    by_cases e : p = root
    · rw [e, Hs_root] at hh; exact hh.resolve_left hk
    · have := par_rk n h.hn root h.hr p hp e; omega
  | succ f ih =>
    intro p hp hf hh
    by_cases e : p = root
    · rw [e, Hs_root] at hh; exact hh.resolve_left hk
    · have h1 := par_rk n h.hn root h.hr p hp e
      rw [Hs_ne e] at hh
      exact ih (parP n root p) (par_lt (by omega)) (by omega) (h.cl _ hh).2.2.2
theorem TI.allU (h : TI n root kd o vs t D g) (hc : comb n root D root) : ∀ f c, c < n → c ≠ root → rk n root c ≤ f → D (c, true) = true := by
  intro f
  induction f with
  | zero => intro c hc hcr hf; have := par_rk n h.hn root h.hr c hc hcr; omega
  | succ f ih =>
    intro c hcn hcr hf
    have h1 := par_rk n h.hn root h.hr c hcn hcr
    have hpn : parP n root c < n := par_lt (by omega)
    have hcp : c ∈ chP n root (parP n root c) := (ch_par n h.hn root h.hr _ hpn c hcn).2 ⟨hcr, rfl⟩
    by_cases e : parP n root c = root
    · rw [e] at hcp; exact hc c hcp
    · exact (h.cl _ (ih _ hpn e (by omega))).2.2.2 c hcp
end
end Gr

/- The text GTI5. -/
set_option linter.unusedVariables false
set_option linter.unusedSimpArgs false
namespace Gr
open Go Go.KK
section
variable {n root : Nat} {kd o : ByteArray} {vs : Nat → Int} {t : Nat} {D : Id → Bool} {g : Gs}
/-- A collective at its very beginning. -/
structure Raw (n root : Nat) (kd o : ByteArray) (vs : Nat → Int) (g : Gs) : Prop where
  tb : TB n root kd o vs D0 g
  has : ∀ p, p < n → (mem g p).has = false
  fly : g.fly = []
  sent : g.sent = 0
theorem D0n (i : Id) : ¬ D0 i = true := fun e => by unfold D0 at e; cases e
theorem comb0 {p : Nat} : comb n root D0 p ↔ chP n root p = [] := by
  constructor
  · intro h
    cases e : chP n root p with
    | nil => rfl
    | cons c l => have := h c (by rw [e]; exact List.mem_cons_self ..); cases this
  · intro h c hc; rw [h] at hc; cases hc
theorem wr0 : wr 0 = 0 := by decide
theorem Raw.cast (h : Raw n root kd o vs g) (hk : kd = sCast) : TI n root kd o vs 0 D0 (castG g root (tot n root kd o vs)) := by
  have hn := h.tb.hn
  have hr := h.tb.hr
  have hT := h.tb
  have hnr : ¬ kd = sRed := by rw [hk]; decide
  have hHs : ∀ q, Hs n root kd D0 q ↔ q = root := fun q => by
    by_cases e : q = root
    · subst e; rw [Hs_root]; exact ⟨fun _ => rfl, fun _ => .inl hk⟩
    · rw [Hs_ne e]; exact ⟨fun g => (by cases g), fun g => absurd g e⟩
  have hfl := hT.cast_fly hr
  have hb := FlyIs.addL (mOf_inj n root kd o vs) (T := fun _ => False) (fly := []) (FlyIs.nil fun _ => id) (ns_nodup (ch_nodup n hn root hr root hr)) (fun _ _ => id)
  refine (hT.cast hr _).ti ⟨fun p hp => ?_, fun p hp hh => ?_, ?_, fun i hi => (by cases hi), ?_, ?_⟩
  · rw [hT.cast_mem hr, hHs]
    split
    · rename_i e; exact ⟨fun _ => e, fun _ => rfl⟩
    · rename_i e; rw [h.has p hp]; exact ⟨fun g => (by cases g), fun g => absurd g e⟩
  · rw [hT.cast_mem hr, if_pos ((hHs p).1 hh)]
  · rw [hfl, h.fly]
    refine hb.congr ?_
    rintro ⟨q, b⟩
    rw [ns_mem]
    cases b
    · show ((¬ kd = sRed ∧ q < n ∧ q ≠ root ∧ Hs n root kd D0 (parP n root q)) ∧ ¬ D0 _ = true) ↔ False ∨ _
      rw [hHs]
      constructor
      · rintro ⟨⟨_, a2, a3, a4⟩, _⟩; exact .inr ⟨rfl, (ch_par n hn root hr root hr q a2).2 ⟨a3, a4⟩⟩
      · rintro (g | ⟨_, a⟩)
        · cases g
        · have hqn := ch_lt a (by omega)
          have := (ch_par n hn root hr root hr q hqn).1 a
          exact ⟨⟨hnr, hqn, this.1, this.2⟩, D0n _⟩
    · exact ⟨fun g => absurd hk g.1.1, fun g => g.elim (fun g => g.elim) (fun g => by cases g.1)⟩
  · rw [hT.cast_sent (tot n root kd o vs) 0 (by rw [h.sent, wr0]), hfl, h.fly]
    simp
  · rw [hfl, h.fly, List.nil_append, List.length_map, List.length_map]
    have := chP_len n root root
    omega
/-- Behind the beginning of some members. -/
structure BI (n root : Nat) (kd o : ByteArray) (vs : Nat → Int) (k : Nat) (g : Gs) : Prop where
  tb : TB n root kd o vs D0 g
  has : ∀ p, p < n → ((mem g p).has = true ↔ p = root ∧ root < k ∧ chP n root root = [])
  res : ∀ p, p < n → (mem g p).has = true → (mem g p).res = tot n root kd o vs
  fly : FlyIs (mOf n root kd o vs) (fun i => i.2 = true ∧ i.1 < k ∧ i.1 ≠ root ∧ chP n root i.1 = []) g.fly
  sent : g.sent = wr ((g.fly.length : Nat) : Int)
  few : g.fly.length ≤ k
theorem BI.next (hk : ¬ kd = sCast) {k : Nat} (hkn : k < n) (h : BI n root kd o vs k g) : BI n root kd o vs (k + 1) (if chG g k = [] then combG g k else g) := by
  have hT := h.tb
  have hn := hT.hn
  have hr := hT.hr
  by_cases hc : chP n root k = []
  · rw [if_pos (by rw [hT.ch]; exact hc)]
    have hacc := hT.acc hkn (comb0.2 hc)
    by_cases hkr : k = root
    · have hcr : chP n root root = [] := by have e := hc; rw [hkr] at e; exact e
      have htot : sub n root o vs k = tot n root kd o vs := by unfold tot; rw [if_neg hk, hkr]
      have hlk : k < g.ms.length := by rw [hT.len]; exact hkn
      have hfl2 : FlyIs (mOf n root kd o vs) (fun i => i.2 = true ∧ i.1 < k + 1 ∧ i.1 ≠ root ∧ chP n root i.1 = []) g.fly := h.fly.congr fun i => ⟨fun ⟨a1, a2, a3, a4⟩ => ⟨a1, by omega, a3, a4⟩, fun ⟨a1, a2, a3, a4⟩ => ⟨a1, by omega, a3, a4⟩⟩
      by_cases hred : kd = sRed
      · have hcg : combG g k = setM g k { mem g k with res := tot n root kd o vs, has := true } := by
          unfold combG; rw [if_neg (not_not_intro (hkr.trans hT.rt.symm)), if_pos (hT.hkd.trans hred), hacc, htot]
        rw [hcg]
        refine ⟨hT.set hkn _, fun p hp => ?_, fun p hp hh => ?_, hfl2, h.sent, Nat.le_succ_of_le h.few⟩
        · rw [mem_setM hlk]; split
          · rename_i e; exact ⟨fun _ => ⟨e.trans hkr, by omega, hcr⟩, fun _ => rfl⟩
          · rename_i e; rw [h.has p hp]; exact ⟨fun ⟨a, b, c⟩ => ⟨a, by omega, c⟩, fun ⟨a, _, _⟩ => absurd (a.trans hkr.symm) e⟩
        · rw [mem_setM hlk] at hh ⊢
          split
          · rfl
          · rename_i e; rw [if_neg e] at hh; exact h.res p hp hh
      · have hcg : combG g k = castG g k (tot n root kd o vs) := by
          unfold combG; rw [if_neg (not_not_intro (hkr.trans hT.rt.symm)), if_neg (by rw [hT.hkd]; exact hred), hacc, htot]
        have hfl : (castG g k (tot n root kd o vs)).fly = g.fly := by rw [hT.cast_fly hkn, hc]; simp
        rw [hcg]
        refine ⟨hT.cast hkn _, fun p hp => ?_, fun p hp hh => ?_, by rw [hfl]; exact hfl2, by rw [hT.cast_sent _ _ h.sent, hfl, hc]; simp, by rw [hfl]; exact Nat.le_succ_of_le h.few⟩
        · rw [hT.cast_mem hkn]; split
          · rename_i e; exact ⟨fun _ => ⟨e.trans hkr, by omega, hcr⟩, fun _ => rfl⟩
          · rename_i e; rw [h.has p hp]; exact ⟨fun ⟨a, b, c⟩ => ⟨a, by omega, c⟩, fun ⟨a, _, _⟩ => absurd (a.trans hkr.symm) e⟩
        · rw [hT.cast_mem hkn] at hh ⊢
          split
          · rfl
          · rename_i e; rw [if_neg e] at hh; exact h.res p hp hh
    · have hcg : combG g k = put g (mOf n root kd o vs (k, true)) := by
        unfold combG; rw [if_pos (by rw [hT.rt]; exact hkr), hacc, hT.len, hT.rt]; rfl
      rw [hcg]
      have h1 := h.fly.add (mOf_inj n root kd o vs) (i := (k, true)) (fun g => Nat.lt_irrefl _ g.2.1)
      refine ⟨hT.put ⟨par_lt (by omega), hkn, Nat.zero_le _⟩, fun p hp => ?_, h.res, h1.congr fun i => ?_, ?_, ?_⟩
      · show (mem g p).has = true ↔ _
        rw [h.has p hp]
        exact ⟨fun ⟨a, b, c⟩ => ⟨a, by omega, c⟩, fun ⟨a, b, c⟩ => ⟨a, by omega, c⟩⟩
      · obtain ⟨q, b⟩ := i
        constructor
        · rintro ⟨a1, a2, a3, a4⟩
          by_cases e : q = k
          · right; rw [e, show b = true from a1]
          · left; exact ⟨a1, (by have : q < k + 1 := a2; show q < k; omega), a3, a4⟩
        · rintro (⟨a1, a2, a3, a4⟩ | e)
          · exact ⟨a1, (by have : q < k := a2; show q < k + 1; omega), a3, a4⟩
          · injection e with e1 e2; subst e1; subst e2; exact ⟨rfl, Nat.lt_succ_self _, hkr, hc⟩
      · show wr (g.sent + 1) = wr (((g.fly ++ [_]).length : Nat) : Int)
        rw [h.sent, wr_add, List.length_append]; simp
      · show (g.fly ++ [_]).length ≤ _
        have := h.few
        rw [List.length_append]; simp; omega
  · rw [if_neg (by rw [hT.ch]; exact hc)]
    refine ⟨hT, fun p hp => ?_, h.res, h.fly.congr fun i => ?_, h.sent, Nat.le_succ_of_le h.few⟩
    · rw [h.has p hp]
      constructor
      · rintro ⟨a, b, c⟩; exact ⟨a, by omega, c⟩
      · rintro ⟨a, b, c⟩
        have : root ≠ k := fun e => hc (e ▸ c)
        exact ⟨a, by omega, c⟩
    · constructor
      · rintro ⟨a1, a2, a3, a4⟩
        have : i.1 ≠ k := fun e => hc (e ▸ a4)
        exact ⟨a1, by omega, a3, a4⟩
      · rintro ⟨a1, a2, a3, a4⟩; exact ⟨a1, by omega, a3, a4⟩
theorem Raw.bi (h : Raw n root kd o vs g) (hk : ¬ kd = sCast) : ∀ k, k ≤ n → BI n root kd o vs k (begT g k)
  | 0, _ => ⟨h.tb, fun p hp => by show (mem g p).has = true ↔ _; rw [h.has p hp]; exact ⟨fun g => (by cases g), fun g => absurd g.2.1 (Nat.not_lt_zero _)⟩, fun p hp hh => (by have : (mem g p).has = true := hh; rw [h.has p hp] at this; cases this),
      by show FlyIs _ _ g.fly; rw [h.fly]; exact FlyIs.nil fun i g => Nat.not_lt_zero _ g.2.1, by show g.sent = wr ((g.fly.length : Nat) : Int); rw [h.sent, h.fly]; exact wr0.symm, by show g.fly.length ≤ 0; rw [h.fly]; exact Nat.le_refl _⟩
  | k + 1, hkn => BI.next hk hkn (Raw.bi h hk k (by omega))
theorem BI.ti (hk : ¬ kd = sCast) (h : BI n root kd o vs n g) : TI n root kd o vs 0 D0 g := by
  have hT := h.tb
  have hn := hT.hn
  have hr := hT.hr
  have hHs : ∀ q, Hs n root kd D0 q ↔ q = root ∧ root < n ∧ chP n root root = [] := fun q => by
    by_cases e : q = root
    · subst e; rw [Hs_root, comb0]; exact ⟨fun g => ⟨rfl, hr, g.resolve_left hk⟩, fun g => .inr g.2.2⟩
    · rw [Hs_ne e]; exact ⟨fun g => (by cases g), fun g => absurd g.1 e⟩
  refine hT.ti ⟨fun p hp => by rw [hHs]; exact h.has p hp, fun p hp hh => h.res p hp ((h.has p hp).2 ((hHs p).1 hh)), h.fly.congr ?_, fun i hi => (by cases hi), by rw [h.sent]; simp, by have := h.few; omega⟩
  rintro ⟨q, b⟩
  cases b
  · constructor
    · rintro ⟨⟨_, a2, a3, a4⟩, _⟩
      obtain ⟨b1, _, b3⟩ := (hHs _).1 a4
      have := (ch_par n hn root hr root hr q a2).2 ⟨a3, b1⟩
      rw [b3] at this; cases this
    · rintro ⟨a, _⟩; cases a
  · constructor
    · rintro ⟨⟨_, a2, a3, a4⟩, _⟩; exact ⟨rfl, a2, a3, comb0.1 a4⟩
    · rintro ⟨_, a2, a3, a4⟩; exact ⟨⟨hk, a2, a3, comb0.2 a4⟩, D0n _⟩
theorem Raw.good (h : Raw n root kd o vs g) (hs : ¬ kd = sScan) : Gd n root kd o vs 0 (beginG g) := by
  have hz : 0 = ((ids n root kd).filter D0).length := by rw [List.filter_eq_nil_iff.2 (fun a _ => D0n a)]; rfl
  unfold beginG
  by_cases hk : kd = sCast
  · rw [if_pos (h.tb.hkd.trans hk), h.tb.rt, h.tb.val root h.tb.hr]
    have : vs root = tot n root kd o vs := by unfold tot; rw [if_pos hk]
    rw [this]
    exact ⟨D0, h.cast hk, hz⟩
  · rw [if_neg (by rw [h.tb.hkd]; exact hk), if_neg (by rw [h.tb.hkd]; exact hs), h.tb.len]
    exact ⟨D0, (h.bi hk n (Nat.le_refl _)).ti hk, hz⟩
theorem TI.deliver (h : TI n root kd o vs t D g) (hs : ¬ kd = sScan) (k : Nat) : dlvG g k = dlvT g k := if_neg (by rw [h.hkd]; exact hs)
end
end Gr

/- The text G14. -/
set_option linter.unusedVariables false
set_option linter.unusedSimpArgs false
set_option maxRecDepth 10000
namespace Go.Proofs.Ytoikjjpleonllaa
open Go Go.KK Gr

theorem newG_good {L : List Asn} {va : Option Addr} {n cap : Nat} {k o : ByteArray} {root : Int} {vs : List Int} [SlIn intE L va vs] (hn : n = vs.length) (hg : goodN k o root vs) :
    CallS Try.prog 10 [.string k, .string o, .int .i64 root, .slice va n cap].toArray L (fun v M => ∃ p am cm bs, v = .tuple #[.pointer (some ⟨p, 0, none⟩), .int .i64 0] ∧ M = GB p am cm bs (newG k o root vs) :: L) :=
  (newG_ok hn).mono fun v M h => ⟨M, (h.resolve_left fun g => g.1 hg).2, fun _ s => s⟩
theorem newG_bad {L : List Asn} {va : Option Addr} {n cap : Nat} {k o : ByteArray} {root : Int} {vs : List Int} [SlIn intE L va vs] (hn : n = vs.length) (hg : ¬ goodN k o root vs) :
    CallS Try.prog 10 [.string k, .string o, .int .i64 root, .slice va n cap].toArray L (fun v M => v = .tuple #[.pointer none, .int .i64 2] ∧ M = L) :=
  (newG_ok hn).mono fun v M h => ⟨M, (h.resolve_right fun g => hg g.1).2, fun _ s => s⟩
/-- The values that a collective begins with. -/
def vsG (g : Gs) : Nat → Int := fun p => (mem g p).v
theorem mem_ms {g : Gs} {W : List Int} (hm : g.ms = ms0 W) {p : Nat} (hp : p < W.length) : mem g p = ⟨W.getD p 0, 0, [], false, 0⟩ := by
  unfold mem
  rw [hm, List.getD_eq_getElem?_getD]
  unfold ms0
  rw [List.getElem?_map, List.getElem?_eq_getElem hp, List.getD_eq_getElem?_getD, List.getElem?_eq_getElem hp]; rfl
def W0 (k : ByteArray) (vs : List Int) : List Int := if k = sBar then List.replicate vs.length 0 else vs
def o0 (k o : ByteArray) : ByteArray := if k = sBar then ⟨#[43]⟩ else o
theorem W0_len (k : ByteArray) (vs : List Int) : (W0 k vs).length = vs.length := by unfold W0; split <;> simp
theorem g0_ms (k o : ByteArray) (root : Int) (vs : List Int) : (g0 k o root vs).ms = ms0 (W0 k vs) ∧ (g0 k o root vs).op = o0 k o := by unfold g0 W0 o0; split <;> exact ⟨rfl, rfl⟩
def vs0 (k : ByteArray) (vs : List Int) : Nat → Int := fun p => (W0 k vs).getD p 0
theorem raw_g0 {k o : ByteArray} {r : Nat} {vs : List Int} (h1 : 1 ≤ vs.length) (h8 : vs.length ≤ 8) (hr : r < vs.length) : Raw vs.length r k (o0 k o) (vs0 k vs) (g0 k o (r : Int) vs) := by
  obtain ⟨a1, a2, a3, a4⟩ := g0_kind k o (r : Int) vs
  obtain ⟨b1, b2⟩ := g0_ms k o (r : Int) vs
  have hm := fun {p : Nat} (hp : p < vs.length) => mem_ms b1 (p := p) (by rw [W0_len]; exact hp)
  refine ⟨⟨by omega, hr, g0_len _ _ _ _, a1, a2, b2, wf_g0 h1 h8, fun p hp => by rw [hm hp]; rfl, fun p hp c hc => ?_, fun p hp => ?_⟩, fun p hp => by rw [hm hp], a3, a4⟩
  · rw [hm hp, if_neg (by unfold D0; simp)]; rfl
  · rw [hm hp]
    rw [List.filter_eq_nil_iff.2 (fun a _ => D0n (a, true))]; rfl
theorem good_new {k o : ByteArray} {r : Nat} {vs : List Int} (h1 : 1 ≤ vs.length) (h8 : vs.length ≤ 8) (hr : r < vs.length) (hs : ¬ k = sScan) : Gd vs.length r k (o0 k o) (vs0 k vs) 0 (newG k o (r : Int) vs) := (raw_g0 h1 h8 hr).good hs
/-- What the calls need. -/
theorem Gd.use {n root : Nat} {kd o : ByteArray} {vs : Nat → Int} {t : Nat} {g : Gs} (h : Gd n root kd o vs t g) (ho : okOp o) : wf g ∧ g.ms.length = n ∧ g.fly.length ≤ 72 ∧ okOp g.op ∧ g.kind = kd ∧ g.root = (root : Int) ∧ (0 ≤ g.root ∧ g.root < (g.ms.length : Int)) ∧ t ≤ 14 := by
  have h1 := h.le
  obtain ⟨D, hT, ht⟩ := h
  have h2 := all_le (kd := kd) hT.hn hT.hr
  have h3 := hT.few
  have h4 := hT.hr
  refine ⟨hT.hwf, hT.len, by omega, by rw [hT.hop]; exact ho, hT.hkd, hT.hroot, by rw [hT.hroot, hT.len]; omega, by omega⟩
theorem Gd.dlv {n root : Nat} {kd o : ByteArray} {vs : Nat → Int} {t : Nat} {g : Gs} (h : Gd n root kd o vs t g) (hs : ¬ kd = sScan) {k : Nat} (hk : k < g.fly.length) : Gd n root kd o vs (t + 1) (dlvG g k) := by
  have h1 := h.step hk
  obtain ⟨D, hT, ht⟩ := h
  rw [hT.deliver hs]; exact h1
end Go.Proofs.Ytoikjjpleonllaa
