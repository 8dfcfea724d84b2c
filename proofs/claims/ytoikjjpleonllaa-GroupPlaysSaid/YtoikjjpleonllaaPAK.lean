/-
  A part of the proof of the claim that this folder bears.
-/
import Derived.Test.YtoikjjpleonllaaPAJ
import Derived.Test.YtoikjjpleonllaaKC
/- The text G16. -/
set_option linter.unusedVariables false
set_option linter.unusedSimpArgs false
set_option maxRecDepth 10000
namespace Go.Proofs.Ytoikjjpleonllaa
open Go Go.KK Gr

def accV (o : ByteArray) (vs : List Int) : Nat → Int
  | 0 => vs.getD 0 0
  | j + 1 => opV o (accV o vs j) (vs.getD (j + 1) 0)
def accR (o : ByteArray) (vs : List Int) : Nat → Int
  | 0 => vs.getD 0 0
  | j + 1 => rOp o (accR o vs j) (vs.getD (j + 1) 0)
theorem rOp_eq {o : ByteArray} (ho : okOp o) {a b : Int} (h : (o = ⟨#[38]⟩ ∨ o = ⟨#[124]⟩) → (a = 0 ∨ a = 1) ∧ (b = 0 ∨ b = 1)) : rOp o a b = opV o a b ∧ ((o = ⟨#[38]⟩ ∨ o = ⟨#[124]⟩) → opV o a b = 0 ∨ opV o a b = 1) := by
  unfold rOp opV
  rcases ho with e | e | e | e | e | e
  · subst e; exact ⟨rfl, fun g => absurd g (by decide)⟩
  · subst e; exact ⟨rfl, fun g => absurd g (by decide)⟩
  · subst e; exact ⟨rfl, fun g => absurd g (by decide)⟩
  · subst e; exact ⟨rfl, fun g => absurd g (by decide)⟩
  · subst e
    obtain ⟨h1, h2⟩ := h (.inl rfl)
    rcases h1 with rfl | rfl <;> rcases h2 with rfl | rfl <;> exact ⟨rfl, fun _ => by decide⟩
  · subst e
    obtain ⟨h1, h2⟩ := h (.inr rfl)
    rcases h1 with rfl | rfl <;> rcases h2 with rfl | rfl <;> exact ⟨rfl, fun _ => by decide⟩
/-- What a member's result is, when all is over. -/
def resT (k o : ByteArray) (root : Int) (vs : List Int) (p : Nat) : Int × Int :=
  if k = sScan then (accR o vs p, 0) else if k = sCast then (vs.getD root.toNat 0, 0) else if k = sBar then (0, 0) else if k = sAll then (accR o vs (vs.length - 1), 0)
  else if (p : Int) = root then (accR o vs (vs.length - 1), 0) else (0, 2)
/-- What is kept, of all kinds. -/
def GF (k o : ByteArray) (root : Int) (vs : List Int) (t : Nat) (g : Gs) : Prop :=
  if k = sScan then GdS vs.length o (fun p => vs.getD p 0) t g else Gd vs.length root.toNat k (o0 k o) (vs0 k vs) t g
theorem GF_new {k o : ByteArray} {root : Int} {vs : List Int} (hg : goodN k o root vs) : GF k o root vs 0 (newG k o root vs) := by
  obtain ⟨⟨g1, g2, ⟨g3, g4⟩, g5⟩, g6⟩ := hg
  unfold GF
  split
  · rename_i h
    have hb : ¬ k = sBar := by rw [h]; decide
    have hw : W0 k vs = vs := if_neg hb
    obtain ⟨a1, a2, a3, a4⟩ := g0_kind k o root vs
    obtain ⟨b1, b2⟩ := g0_ms k o root vs
    refine RawS.good ⟨by omega, g0_len _ _ _ _, a1.trans h, b2.trans (if_neg hb), wf_g0 g3 g4, fun p hp => ?_, a3, a4⟩
    rw [mem_ms b1 (by rw [W0_len]; exact hp), hw]; exact ⟨rfl, rfl, rfl, rfl⟩
  · rename_i h
    have hr := g5 h
    have e : root = ((root.toNat : Nat) : Int) := by omega
    have := good_new (k := k) (o := o) (r := root.toNat) (vs := vs) g3 g4 (by omega) h
    rw [← e] at this; exact this
theorem o0_ok {k o : ByteArray} (h : okOp o) : okOp (o0 k o) := by unfold o0; split; exact .inl rfl; exact h
theorem GF_use {k o : ByteArray} {root : Int} {vs : List Int} {t : Nat} {g : Gs} (hg : goodN k o root vs) (h : GF k o root vs t g) : wf g ∧ g.ms.length = vs.length ∧ g.fly.length ≤ 110 ∧ okOp g.op ∧ (¬ g.kind = sScan → 0 ≤ g.root ∧ g.root < (g.ms.length : Int)) ∧ g.kind = k ∧ t ≤ 17 := by
  have ho := ok_ops hg.1.2.1
  unfold GF at h
  split at h
  · rename_i hk
    have h17 := h.le
    obtain ⟨⟨D, hT, ht⟩, hf⟩ := h
    exact ⟨hT.hwf, hT.len, by omega, by rw [hT.hop]; exact ho, fun e => absurd hT.hkd e, hT.hkd.trans hk.symm, h17⟩
  · obtain ⟨u1, u2, u3, u4, u5, u6, u7, u8⟩ := Gd.use h (o0_ok ho)
    exact ⟨u1, u2, by omega, u4, fun _ => u7, u5, by omega⟩
theorem GF_dlv {k o : ByteArray} {root : Int} {vs : List Int} {t : Nat} {g : Gs} (h : GF k o root vs t g) {q : Nat} (hq : q < g.fly.length) : GF k o root vs (t + 1) (dlvG g q) := by
  unfold GF at h ⊢
  split at h
  · rename_i hk
    rw [if_pos hk]
    have h1 := h.step hq
    obtain ⟨⟨D, hT, ht⟩, hf⟩ := h
    have e : dlvG g q = dlvS g q := if_pos hT.hkd
    rw [e]; exact h1
  · rename_i hk
    rw [if_neg hk]; exact Gd.dlv h hk hq
theorem all_one {n root : Nat} (hn : n < 9) (hr : root < n) {kd : ByteArray} (h : kd = sCast ∨ kd = sRed) : (all_ n root kd : Int) = (n : Int) - 1 := by
  have := base_len n hn root hr
  unfold all_ ids
  rcases h with rfl | rfl
  · rw [if_pos rfl, if_neg (by decide), List.length_append, List.length_map]; simp; omega
  · rw [if_neg (by decide), if_pos rfl, List.length_append, List.length_map]; simp; omega
theorem len4 {α : Type} {l : List α} (h : l.length = 4) : ∃ a b c d, l = [a, b, c, d] := by
  match l, h with
  | [a, b, c, d], _ => exact ⟨a, b, c, d, rfl⟩
end Go.Proofs.Ytoikjjpleonllaa

/- The text RRep. -/
set_option linter.unusedVariables false
set_option linter.unusedSimpArgs false
/-! The document's collective, plain and in memory. -/
namespace Rg
open Go Go.KK Gr Go.Proofs.Ytoikjjpleonllaa
structure Rm where
  fr : Nat
  to : Nat
  rd : Nat
  v : Int
  ct : Bool
  deriving Inhabited
structure Rs where
  kind : ByteArray
  op : ByteArray
  root : Int
  sum : List Int
  has : List Bool
  got : List (List Rm)
  rnd : List Nat
  beg : List Bool
  fly : List Rm
  sent : Int
def rsum (R : Rs) (p : Nat) : Int := R.sum.getD p 0
def rhas (R : Rs) (p : Nat) : Bool := R.has.getD p false
def rgot (R : Rs) (p : Nat) : List Rm := R.got.getD p []
def rrnd (R : Rs) (p : Nat) : Nat := R.rnd.getD p 0
def rbeg (R : Rs) (p : Nat) : Bool := R.beg.getD p false
def rrt (R : Rs) : Nat := R.root.toNat
def sendR (R : Rs) (m : Rm) : Rs := { R with fly := R.fly ++ [m], sent := wr (R.sent + 1) }
def setSum (R : Rs) (p : Nat) (v : Int) : Rs := { R with sum := R.sum.set p v }
def setHas (R : Rs) (p : Nat) (b : Bool) : Rs := { R with has := R.has.set p b }
def setGot (R : Rs) (p : Nat) (l : List Rm) : Rs := { R with got := R.got.set p l }
def setRnd (R : Rs) (p : Nat) (r : Nat) : Rs := { R with rnd := R.rnd.set p r }
def setBeg (R : Rs) (p : Nat) (b : Bool) : Rs := { R with beg := R.beg.set p b }
def takeR (R : Rs) (k : Nat) : Rs := { R with fly := R.fly.take k ++ R.fly.drop (k + 1) }
def msgR (R : Rs) (k : Nat) : Rm := R.fly.getD k default
def pkR (R : Rs) (p : Nat) (v : Int) (cs : List Nat) : Rs := cs.foldl (fun R c => sendR R ⟨p, c, 0, v, true⟩) R
def castR (R : Rs) (p : Nat) (v : Int) : Rs := pkR (setHas (setSum R p v) p true) p v (chP R.sum.length (rrt R) p)
def seekS (o : ByteArray) (r : Nat) (l : List Rm) (x : Int) : Int × Bool := l.foldl (fun a m => if m.rd = r then (rOp o m.v a.1, true) else a) (x, false)
def seekC (o : ByteArray) (c : Nat) (l : List Rm) (x : Int) : Int × Bool := l.foldl (fun a m => if m.fr = c then (rOp o a.1 m.v, true) else a) (x, false)
def colR (o : ByteArray) (l : List Rm) : List Nat → Int → Option Int
  | [], a => some a
  | c :: cs, a => if (seekC o c l a).2 = true then colR o l cs (seekC o c l a).1 else none
def combR (R : Rs) (p : Nat) : Rs :=
  match colR R.op (rgot R p) (chP R.sum.length (rrt R) p) (rsum R p) with
  | none => R
  | some a => if ¬ p = rrt R then sendR R ⟨p, parP R.sum.length (rrt R) p, 0, a, false⟩ else if R.kind = sRed then setHas (setSum R p a) p true else castR R p a
def startR (R : Rs) (p : Nat) : Rs :=
  if rbeg R p = true then R
  else if p + 2 ^ rrnd R p < R.sum.length then sendR (setBeg R p true) ⟨p, p + 2 ^ rrnd R p, rrnd R p, rsum R p, false⟩ else setBeg R p true
def nextR (R : Rs) (p : Nat) : Rs := setBeg (setRnd R p (rrnd R p + 1)) p false
def scanR : Nat → Rs → Nat → Rs
  | 0, R, _ => R
  | f + 1, R, p =>
    if rhas R p = true then R
    else if ¬ 2 ^ rrnd R p < R.sum.length then setHas R p true
    else if 2 ^ rrnd R p ≤ p then
      (if (seekS R.op (rrnd R p) (rgot R p) (rsum R p)).2 = true then scanR f (nextR (setSum (startR R p) p (seekS R.op (rrnd R p) (rgot R p) (rsum R p)).1) p) p else startR R p)
    else scanR f (nextR (startR R p) p) p
def dlvR (R : Rs) (k : Nat) : Rs :=
  if (msgR R k).ct = true then castR (takeR R k) (msgR R k).to (msgR R k).v
  else if R.kind = sScan then scanR 4 (setGot (takeR R k) (msgR R k).to (rgot R (msgR R k).to ++ [msgR R k])) (msgR R k).to
  else combR (setGot (takeR R k) (msgR R k).to (rgot R (msgR R k).to ++ [msgR R k])) (msgR R k).to
/-- Well-formed. -/
structure WR (n : Nat) (R : Rs) : Prop where
  n1 : 1 ≤ n
  n8 : n ≤ 8
  ls : R.sum.length = n
  lh : R.has.length = n
  lg : R.got.length = n
  lr : R.rnd.length = n
  lb : R.beg.length = n
  r3 : ∀ r ∈ R.rnd, r ≤ 3
  ft : ∀ m ∈ R.fly, m.to < n
theorem getD_get {α : Type} {l : List α} {p : Nat} (d : α) (h : p < l.length) : l[p]? = some (l.getD p d) := by
  rw [List.getD_eq_getElem?_getD, List.getElem?_eq_getElem h]; rfl
theorem getD_set {α : Type} {l : List α} {p : Nat} (d x : α) (h : p < l.length) (q : Nat) : (l.set p x).getD q d = if q = p then x else l.getD q d := by
  by_cases e : q = p
  · subst e; rw [if_pos rfl, List.getD_eq_getElem?_getD, List.getElem?_set]; simp [h]
  · rw [if_neg e, List.getD_eq_getElem?_getD, List.getElem?_set, if_neg (Ne.symm e), ← List.getD_eq_getElem?_getD]
theorem pkR_snoc (R : Rs) (p : Nat) (v : Int) (cs : List Nat) (c : Nat) : pkR R p v (cs ++ [c]) = sendR (pkR R p v cs) ⟨p, c, 0, v, true⟩ := by unfold pkR; rw [List.foldl_append]; rfl
theorem pkR_fly (p : Nat) (v : Int) : ∀ (cs : List Nat) (R : Rs), (pkR R p v cs).fly = R.fly ++ cs.map (fun c => (⟨p, c, 0, v, true⟩ : Rm))
  | [], R => (List.append_nil _).symm
  | c :: cs, R => by
    show (pkR (sendR R _) p v cs).fly = _
    rw [pkR_fly p v cs, List.map_cons, sendR]; simp
theorem WR.send {n : Nat} {R : Rs} (h : WR n R) {m : Rm} (hm : m.to < n) : WR n (sendR R m) := ⟨h.n1, h.n8, h.ls, h.lh, h.lg, h.lr, h.lb, h.r3, fun x hx => by
  rcases List.mem_append.1 hx with hx | hx
  · exact h.ft x hx
  · rw [List.mem_singleton.1 hx]; exact hm⟩
theorem WR.pk' {n : Nat} (p : Nat) (v : Int) : ∀ (cs : List Nat) (R : Rs), WR n R → (∀ c ∈ cs, c < n) → WR n (pkR R p v cs)
  | [], R, h, _ => h
  | c :: cs, R, h, hc => WR.pk' p v cs _ (h.send (m := ⟨p, c, 0, v, true⟩) (hc c (List.mem_cons_self ..))) fun x hx => hc x (List.mem_cons_of_mem _ hx)
theorem WR.pk {n : Nat} (p : Nat) (v : Int) {cs : List Nat} {R : Rs} (h : WR n R) (hc : ∀ c ∈ cs, c < n) : WR n (pkR R p v cs) := WR.pk' p v cs R h hc
theorem WR.sum {n : Nat} {R : Rs} (h : WR n R) (p : Nat) (v : Int) : WR n (setSum R p v) := ⟨h.n1, h.n8, by show (R.sum.set p v).length = n; rw [List.length_set]; exact h.ls, h.lh, h.lg, h.lr, h.lb, h.r3, h.ft⟩
theorem WR.has {n : Nat} {R : Rs} (h : WR n R) (p : Nat) (b : Bool) : WR n (setHas R p b) := ⟨h.n1, h.n8, h.ls, by show (R.has.set p b).length = n; rw [List.length_set]; exact h.lh, h.lg, h.lr, h.lb, h.r3, h.ft⟩
theorem WR.got {n : Nat} {R : Rs} (h : WR n R) (p : Nat) (l : List Rm) : WR n (setGot R p l) := ⟨h.n1, h.n8, h.ls, h.lh, by show (R.got.set p l).length = n; rw [List.length_set]; exact h.lg, h.lr, h.lb, h.r3, h.ft⟩
theorem WR.beg {n : Nat} {R : Rs} (h : WR n R) (p : Nat) (b : Bool) : WR n (setBeg R p b) := ⟨h.n1, h.n8, h.ls, h.lh, h.lg, h.lr, by show (R.beg.set p b).length = n; rw [List.length_set]; exact h.lb, h.r3, h.ft⟩
theorem WR.rnd {n : Nat} {R : Rs} (h : WR n R) (p : Nat) {r : Nat} (hr : r ≤ 3) : WR n (setRnd R p r) := ⟨h.n1, h.n8, h.ls, h.lh, h.lg, by show (R.rnd.set p r).length = n; rw [List.length_set]; exact h.lr, h.lb, fun x hx => by
  rcases List.mem_or_eq_of_mem_set hx with hx | rfl
  · exact h.r3 x hx
  · exact hr, h.ft⟩
theorem WR.take {n : Nat} {R : Rs} (h : WR n R) (k : Nat) : WR n (takeR R k) := ⟨h.n1, h.n8, h.ls, h.lh, h.lg, h.lr, h.lb, h.r3, fun m hm => h.ft m (by
  rcases List.mem_append.1 hm with hm | hm
  · exact List.mem_of_mem_take hm
  · exact List.mem_of_mem_drop hm)⟩
theorem WR.cast1 {n : Nat} {R : Rs} (h : WR n R) {i : Nat} {z : Int} (hi : i < n) : WR n (setHas (setSum R i z) i true) := (h.sum i z).has i true
theorem WR.cast {n : Nat} {R : Rs} (h : WR n R) {i : Nat} (hi : i < n) (z : Int) : WR n (castR R i z) := by
  have h1 := WR.pk i z (cs := chP R.sum.length (rrt R) i) (h.cast1 (z := z) hi) fun c hc => by have := ch_lt hc (by have := h.ls; have := h.n1; omega); have := h.ls; omega
  exact h1
theorem WR.rrnd {n : Nat} {R : Rs} (h : WR n R) {i : Nat} (hi : i < n) : rrnd R i ≤ 3 := by
  have := getD_get 0 (show i < R.rnd.length by rw [h.lr]; exact hi)
  exact h.r3 _ (List.mem_of_getElem? this)
theorem seekS_snoc (o : ByteArray) (r : Nat) (l : List Rm) (m : Rm) (x : Int) : seekS o r (l ++ [m]) x = if m.rd = r then (rOp o m.v (seekS o r l x).1, true) else seekS o r l x := by unfold seekS; rw [List.foldl_append]; rfl
theorem seekC_snoc (o : ByteArray) (c : Nat) (l : List Rm) (m : Rm) (x : Int) : seekC o c (l ++ [m]) x = if m.fr = c then (rOp o (seekC o c l x).1 m.v, true) else seekC o c l x := by unfold seekC; rw [List.foldl_append]; rfl
theorem rev_ind {α : Type} {P : List α → Prop} (h0 : P []) (h1 : ∀ l x, P l → P (l ++ [x])) : ∀ l, P l := fun l => by
  have : ∀ k, k ≤ l.length → P (l.take k) := by
    intro k
    induction k with
    | zero => intro _; exact h0
    | succ k ih =>
      intro hk
      rw [List.take_add_one, List.getElem?_eq_getElem (by omega)]
      exact h1 _ _ (ih (by omega))
  have h2 := this l.length (Nat.le_refl _)
  rwa [List.take_length] at h2
theorem seekS_no {o : ByteArray} {r : Nat} {x : Int} : ∀ l : List Rm, (seekS o r l x).2 = false → (seekS o r l x).1 = x := by
  refine rev_ind (fun _ => rfl) fun l m ih h => ?_
  rw [seekS_snoc] at h ⊢
  split at h
  · cases h
  · rename_i e; rw [if_neg e]; exact ih h
theorem startR_same (R : Rs) (p : Nat) : (startR R p).sum = R.sum ∧ (startR R p).has = R.has ∧ (startR R p).got = R.got ∧ (startR R p).rnd = R.rnd ∧ (startR R p).op = R.op ∧ (startR R p).kind = R.kind ∧ (startR R p).root = R.root ∧ (startR R p).fly.length ≤ R.fly.length + 1 := by
  unfold startR
  split
  · exact ⟨rfl, rfl, rfl, rfl, rfl, rfl, rfl, by omega⟩
  · split
    · refine ⟨rfl, rfl, rfl, rfl, rfl, rfl, rfl, ?_⟩
      show (R.fly ++ [_]).length ≤ _
      rw [List.length_append]; exact Nat.le_refl _
    · exact ⟨rfl, rfl, rfl, rfl, rfl, rfl, rfl, Nat.le_succ _⟩
theorem WR.start {n : Nat} {R : Rs} (h : WR n R) {p : Nat} (hp : p < n) : WR n (startR R p) := by
  unfold startR
  split
  · exact h
  · split
    · rename_i h2; exact (h.beg p true).send (by have := h.ls; dsimp only; omega)
    · exact h.beg p true
theorem scanR_has {f : Nat} {R : Rs} {p : Nat} (h : rhas R p = true) : scanR (f + 1) R p = R := by unfold scanR; rw [if_pos h]
theorem scanR_end {f : Nat} {R : Rs} {p : Nat} (h : ¬ rhas R p = true) (h2 : ¬ 2 ^ rrnd R p < R.sum.length) : scanR (f + 1) R p = setHas R p true := by unfold scanR; rw [if_neg h, if_pos h2]
theorem scanR_some {f : Nat} {R : Rs} {p : Nat} (h : ¬ rhas R p = true) (h2 : 2 ^ rrnd R p < R.sum.length) (h3 : 2 ^ rrnd R p ≤ p) (h4 : (seekS R.op (rrnd R p) (rgot R p) (rsum R p)).2 = true) : scanR (f + 1) R p = scanR f (nextR (setSum (startR R p) p (seekS R.op (rrnd R p) (rgot R p) (rsum R p)).1) p) p := by
  conv => lhs; unfold scanR
  rw [if_neg h, if_neg (not_not_intro h2), if_pos h3, if_pos h4]
theorem scanR_wait {f : Nat} {R : Rs} {p : Nat} (h : ¬ rhas R p = true) (h2 : 2 ^ rrnd R p < R.sum.length) (h3 : 2 ^ rrnd R p ≤ p) (h4 : ¬ (seekS R.op (rrnd R p) (rgot R p) (rsum R p)).2 = true) : scanR (f + 1) R p = startR R p := by
  conv => lhs; unfold scanR
  rw [if_neg h, if_neg (not_not_intro h2), if_pos h3, if_neg h4]
theorem scanR_go {f : Nat} {R : Rs} {p : Nat} (h : ¬ rhas R p = true) (h2 : 2 ^ rrnd R p < R.sum.length) (h3 : ¬ 2 ^ rrnd R p ≤ p) : scanR (f + 1) R p = scanR f (nextR (startR R p) p) p := by
  conv => lhs; unfold scanR
  rw [if_neg h, if_neg (not_not_intro h2), if_neg h3]
theorem list_set_same {α : Type} {l : List α} {p : Nat} {x : α} (h : l[p]? = some x) : l.set p x = l := by
  apply List.ext_getElem?
  intro j
  rw [List.getElem?_set]
  by_cases e : p = j
  · subst e; rw [if_pos rfl, if_pos (List.getElem?_eq_some_iff.1 h).1, h]
  · rw [if_neg e]
theorem setSum_same {n : Nat} {R : Rs} (h : WR n R) {p : Nat} (hp : p < n) : setSum R p (rsum R p) = R := by
  unfold setSum rsum
  rw [list_set_same (getD_get 0 (by rw [h.ls]; exact hp))]
theorem r_ltR {n : Nat} {R : Rs} (h : WR n R) {p : Nat} (hp : p < n) (hr : 2 ^ rrnd R p < R.sum.length) : rrnd R p ≤ 2 := by
  have h8 := h.n8
  have h4 := h.rrnd hp
  have hl := h.ls
  rcases Nat.lt_or_ge (rrnd R p) 3 with g1 | g1
  · omega
  · have : rrnd R p = 3 := by omega
    rw [this] at hr; omega
end Rg
namespace Go.Proofs.Ytoikjjpleonllaa
open Go Go.KK Gr Rg
def boE : Enc Bool := ⟨4, 1, fun b => [.bool b], fun _ => rfl, fun s v h => by
  simp only [List.mem_cons, List.not_mem_nil, or_false] at h; rcases h with rfl; rfl⟩
def natE : Enc Nat := ⟨3, 1, fun s => [.int .i64 (s : Int)], fun _ => rfl, fun s v h => by
  simp only [List.mem_cons, List.not_mem_nil, or_false] at h; rcases h with rfl; rfl⟩
def rmE : Enc Rm := ⟨89, 5, fun m => [.int .i64 (m.fr : Int), .int .i64 (m.to : Int), .int .i64 (m.rd : Int), .int .i64 m.v, .bool m.ct], fun _ => rfl, fun s v h => by
  simp only [List.mem_cons, List.not_mem_nil, or_false] at h; rcases h with rfl | rfl | rfl | rfl | rfl <;> rfl⟩
def grE : Enc ((Option Addr × Nat) × List Rm) := ⟨77, 1, fun p => [.slice p.1.1 p.2.length p.1.2], fun _ => rfl, fun s v h => by
  simp only [List.mem_cons, List.not_mem_nil, or_false] at h; rcases h with rfl; rfl⟩
abbrev rmV (m : Rm) : Value := .agg #[.int .i64 (m.fr : Int), .int .i64 (m.to : Int), .int .i64 (m.rd : Int), .int .i64 m.v, .bool m.ct]
abbrev rmC (m : Rm) : Obj := .cells #[.int .i64 (m.fr : Int), .int .i64 (m.to : Int), .int .i64 (m.rd : Int), .int .i64 m.v, .bool m.ct] 89
abbrev gA : (Option Addr × Nat) → List Rm → Asn := fun hd xs => sl rmE hd.1 hd.2 xs
abbrev rC (k o : ByteArray) (root : Int) (n : Nat) (sa : Option Addr) (sc : Nat) (ha : Option Addr) (lh hc : Nat) (ga : Option Addr) (lg gc : Nat) (ra : Option Addr) (lr rc : Nat) (ba : Option Addr) (lb bc : Nat) (fa : Option Addr) (lf fc : Nat) (sent : Int) : Obj :=
  .cells #[.string k, .string o, .int .i64 root, .int .i64 (n : Int), .slice sa n sc, .slice ha lh hc, .slice ga lg gc, .slice ra lr rc, .slice ba lb bc, .slice fa lf fc, .int .i64 sent] 79
structure RP where
  sa : Option Addr
  sc : Nat
  ha : Option Addr
  hc : Nat
  ga : Option Addr
  gc : Nat
  ra : Option Addr
  rc : Nat
  ba : Option Addr
  bc : Nat
  fa : Option Addr
  fc : Nat
  hs : List (Option Addr × Nat)
abbrev rList (p : Nat) (R : Rs) (q : RP) : List Asn :=
  [blk p (rC R.kind R.op R.root R.sum.length q.sa q.sc q.ha R.has.length q.hc q.ga R.got.length q.gc q.ra R.rnd.length q.rc q.ba R.beg.length q.bc q.fa R.fly.length q.fc R.sent),
   sl intE q.sa q.sc R.sum, sl boE q.ha q.hc R.has, sl grE q.ga q.gc (q.hs.zip R.got), star (List.zipWith gA q.hs R.got), sl natE q.ra q.rc R.rnd, sl boE q.ba q.bc R.beg, slQ rmE q.fa q.fc R.fly]
@[irreducible] def RB (p : Nat) (R : Rs) : Asn := fun h => ∃ q : RP, q.hs.length = R.got.length ∧ star (rList p R q) h
theorem RB_mk {p : Nat} {R : Rs} {L : List Asn} {h : Hp} (q : RP) (h1 : q.hs.length = R.got.length) (s : Sat h (rList p R q ++ L)) : Sat h (RB p R :: L) := by
  have h3 := (Sat.star (M := rList p R q) (L := L)).2 s
  exact h3.cons_imp (fun k hk => by unfold RB; exact ⟨q, h1, hk⟩) (fun _ h => h)
theorem RB_open {p : Nat} {R : Rs} {L : List Asn} {c : Cx} {F : Fr} {k : List Item}
    (h : ∀ (sa : Option Addr) (sc : Nat) (ha : Option Addr) (hc : Nat) (ga : Option Addr) (gc : Nat) (ra : Option Addr) (rc : Nat) (ba : Option Addr) (bc : Nat) (fa : Option Addr) (fc : Nat) (hs : List (Option Addr × Nat)), hs.length = R.got.length →
      J c F (rList p R ⟨sa, sc, ha, hc, ga, gc, ra, rc, ba, bc, fa, fc, hs⟩ ++ L) k) : J c F (RB p R :: L) k := by
  unfold RB
  refine J.ex fun q => ?_
  refine J.prop fun hq => ?_
  refine J.star ?_
  exact h q.sa q.sc q.ha q.hc q.ga q.gc q.ra q.rc q.ba q.bc q.fa q.fc q.hs hq
theorem zipr_get {hs : List (Option Addr × Nat)} {xs : List (List Rm)} {i : Nat} {h : Option Addr × Nat} {x : List Rm} (h1 : hs[i]? = some h) (h2 : xs[i]? = some x) : (hs.zip xs)[i]? = some (h, x) := List.getElem?_zip_eq_some.2 ⟨h1, h2⟩
theorem zipr_set {hs : List (Option Addr × Nat)} {xs : List (List Rm)} (hl : hs.length = xs.length) (i : Nat) (h : Option Addr × Nat) (x : List Rm) : (hs.zip xs).set i (h, x) = (hs.set i h).zip (xs.set i x) := by
  rw [List.zip_eq_zipWith, List.zip_eq_zipWith]
  apply List.ext_getElem?
  intro j
  rw [List.getElem?_set, List.getElem?_zipWith, List.getElem?_zipWith, List.getElem?_set, List.getElem?_set]
  by_cases e : i = j
  · subst e
    rw [if_pos rfl, if_pos rfl, if_pos rfl, List.length_zipWith]
    by_cases hi : i < hs.length
    · rw [if_pos (by omega), if_pos hi, if_pos (by omega)]
    · rw [if_neg (by omega), if_neg hi]
  · rw [if_neg e, if_neg e, if_neg e]
end Go.Proofs.Ytoikjjpleonllaa

/- The text R1. -/
set_option linter.unusedVariables false
set_option linter.unusedSimpArgs false
set_option maxRecDepth 10000
namespace Go.Proofs.Ytoikjjpleonllaa
open Go Go.KK Gr Rg

theorem rsend_ok {L : List Asn} {p n : Nat} {X : Rs} (hw : WR n X) {m : Rm} (hf : X.fly.length ≤ 100000) :
    CallS Try.prog 81 [.pointer (some ⟨p, 0, none⟩), rmV m].toArray (RB p X :: L) (fun v M => v = .tuple #[] ∧ M = RB p (sendR X m) :: L) := by
  have wn1 := hw.n1
  have wn8 := hw.n8
  have wls := hw.ls
  have wlh := hw.lh
  have wlg := hw.lg
  have wlr := hw.lr
  have wlb := hw.lb
  refine CallS.ent ?_
  refine CallS.enter Try.func81 rfl rfl rfl rfl rfl ?_
  refine RB_open fun sa sc ha hc ga gc ra rc ba bc fa fc hs hb => ?_
  refine J.imp (M := blk p (rC X.kind X.op X.root X.sum.length sa sc ha X.has.length hc ga X.got.length gc ra X.rnd.length rc ba X.beg.length bc fa X.fly.length fc X.sent) :: sl intE sa sc X.sum :: sl boE ha hc X.has :: sl grE ga gc (hs.zip X.got) :: star (List.zipWith gA hs X.got) :: sl natE ra rc X.rnd :: sl boE ba bc X.beg :: slQ rmE fa fc X.fly :: L) (fun h s => s) ?_
  refine J.seq rfl ?_
  refine J.region rfl ?_
  refine JO.eff rfl rfl rfl (Eff.box (cs := [_, _, _, _, _]) rfl rfl) ?_
  rintro _ _ ⟨b3, rfl, rfl⟩
  refine JO.nil ?_
  refine J.seq rfl ?_
  refine J.mask0 (n := 11) [7, 10] rfl Try.mixed rfl (by kernel_rfl) ?_
  refine JM.takeF 0 (.inr (fun _ h => h)) rfl (by kernel_rfl) rfl rfl rfl (m' := 1) rfl (Pur.move rfl) ?_
  refine JM.take 1 (fun _ h => h) rfl (by kernel_rfl) rfl rfl rfl (m' := 3) rfl (Pur.move rfl) ?_
  refine JM.take 2 (fun _ h => h) rfl (by kernel_rfl) rfl rfl rfl (m' := 7) rfl (Pur.nilCheck rfl) ?_
  refine JM.take 3 (fun _ h => h) rfl (by kernel_rfl) rfl rfl rfl (m' := 15) rfl (Pur.fieldAddr rfl) ?_
  refine JM.take 4 (fun _ h => h) rfl (by kernel_rfl) rfl rfl rfl (m' := 31) rfl (Pur.load rfl (CellIn.blk rfl)) ?_
  refine JM.take 5 (fun _ h => h) rfl (by kernel_rfl) rfl rfl rfl (m' := 63) rfl (Pur.loadA rfl rfl rfl CellsIn.blk) ?_
  refine JM.setv (u' := rmV m) 9 rfl rfl ?_
  refine JM.one (i := 6) (by kernel_rfl) ?_
  refine JMi.eff rfl rfl rfl rfl (m' := 127) rfl (Eff.buildSlice rmE [m] rfl rfl rfl rfl rfl rfl rfl) ?_
  rintro _ _ ⟨b10, rfl, -, rfl⟩
  refine ⟨.inr (fun _ h => h.tail), ?_⟩
  refine JM.one (i := 7) (by kernel_rfl) ?_
  refine JMi.eff rfl rfl rfl rfl (m' := 255) rfl (Eff.appendH rfl rfl rfl rfl rfl rfl (List.cons_ne_nil _ _) (by decide) (by simp; omega) (by simp; omega) (fun h => by cases h)) ?_
  rintro _ _ ⟨a11, c11, rfl, rfl⟩
  refine ⟨.inl (by simp), ?_⟩
  refine JM.takeF 8 (.inl (by kernel_rfl)) rfl (by kernel_rfl) rfl rfl rfl (m' := 511) rfl (Pur.nilCheck rfl) ?_
  refine JM.takeF 9 (.inl (by kernel_rfl)) rfl (by kernel_rfl) rfl rfl rfl (m' := 1023) rfl (Pur.fieldAddr rfl) ?_
  refine JM.one (i := 10) (by kernel_rfl) ?_
  refine JMi.effN rfl rfl rfl (m' := 2047) rfl (Eff.storeB rfl rfl rfl (.tail (.tail (.tail (.tail (.tail (.tail (.tail (.tail (.tail .head)))))))))) ?_
  rintro _ _ ⟨rfl, rfl⟩
  refine ⟨.inl (by simp), ?_⟩
  refine JM.done rfl ?_
  refine J.region rfl ?_
  refine JO.pur rfl rfl rfl (Pur.move rfl) ?_
  refine JO.pur rfl rfl rfl (Pur.nilCheck rfl) ?_
  refine JO.pur rfl rfl rfl (Pur.fieldAddr rfl) ?_
  refine JO.pur rfl rfl rfl (Pur.load rfl (CellIn.blk rfl)) ?_
  refine JO.pur rfl rfl rfl (Pur.addW rfl rfl) ?_
  refine JO.pur rfl rfl rfl (Pur.nilCheck rfl) ?_
  refine JO.pur rfl rfl rfl (Pur.fieldAddr rfl) ?_
  refine JO.effN rfl rfl (Eff.storeB rfl rfl rfl (.tail (.tail (.tail (.tail (.tail (.tail (.tail (.tail (.tail (.tail .head))))))))))) ?_
  rintro _ _ ⟨rfl, rfl⟩
  refine JO.nil ?_
  refine J.fin rfl ?_
  refine ⟨_, _, ⟨rfl, rfl⟩, rfl, fun h s => ?_⟩
  have e : X.fly.length + 1 = (X.fly ++ [m]).length := by simp
  simp only [List.length_singleton] at s; rw [e] at s
  exact (fun h s => RB_mk (R := (sendR X m)) (L := L) ⟨sa, sc, ha, hc, ga, gc, ra, rc, ba, bc, a11, c11, hs⟩ hb (show Sat h (blk p (rC X.kind X.op X.root X.sum.length sa sc ha X.has.length hc ga X.got.length gc ra X.rnd.length rc ba X.beg.length bc a11 (X.fly ++ [m]).length c11 (IntKind.i64.wrap (X.sent + 1))) :: sl intE sa sc X.sum :: sl boE ha hc X.has :: sl grE ga gc (hs.zip X.got) :: star (List.zipWith gA hs X.got) :: sl natE ra rc X.rnd :: sl boE ba bc X.beg :: slQ rmE a11 c11 (X.fly ++ [m]) :: L) from SubC.out h s)) h s

theorem rcast_ok {L : List Asn} {p n : Nat} {X : Rs} (hw : WR n X) {i : Nat} (hr0 : 0 ≤ X.root) (hr1 : X.root < (n : Int)) (hi : i < n) {z : Int} (hf : X.fly.length ≤ 50000) :
    CallS Try.prog 47 [.pointer (some ⟨p, 0, none⟩), .int .i64 (i : Int), .int .i64 z].toArray (RB p X :: L) (fun v M => v = .tuple #[] ∧ M = RB p (castR X i z) :: L) := by
  have wn1 := hw.n1
  have wn8 := hw.n8
  have wls := hw.ls
  have wlh := hw.lh
  have wlg := hw.lg
  have wlr := hw.lr
  have wlb := hw.lb
  have hrn : rrt X < n := by unfold rrt; omega
  have hcv : (chV ((X.sum.length : Nat) : Int) ((rrt X : Nat) : Int) (i : Int)).1 = natI (chP X.sum.length (rrt X) i) ∧ (chV ((X.sum.length : Nat) : Int) ((rrt X : Nat) : Int) (i : Int)).2 = 0 := by unfold chV; rw [if_pos ⟨by omega, by omega, by omega, by omega, by omega, by omega⟩]; exact ⟨rfl, rfl⟩
  refine CallS.ent ?_
  refine CallS.enter Try.func47 rfl rfl rfl rfl rfl ?_
  refine RB_open fun sa sc ha hc ga gc ra rc ba bc fa fc hs hb => ?_
  refine J.imp (M := blk p (rC X.kind X.op X.root X.sum.length sa sc ha X.has.length hc ga X.got.length gc ra X.rnd.length rc ba X.beg.length bc fa X.fly.length fc X.sent) :: sl intE sa sc X.sum :: sl boE ha hc X.has :: sl grE ga gc (hs.zip X.got) :: star (List.zipWith gA hs X.got) :: sl natE ra rc X.rnd :: sl boE ba bc X.beg :: slQ rmE fa fc X.fly :: L) (fun h s => s) ?_
  refine J.seq rfl ?_
  refine J.mask0 (n := 15) [12, 14] rfl Try.mixed rfl (by kernel_rfl) ?_
  refine JM.take 0 (fun _ h => h) rfl (by kernel_rfl) rfl rfl rfl (m' := 1) rfl (Pur.move rfl) ?_
  refine JM.take 1 (fun _ h => h) rfl (by kernel_rfl) rfl rfl rfl (m' := 3) rfl (Pur.nilCheck rfl) ?_
  refine JM.take 2 (fun _ h => h) rfl (by kernel_rfl) rfl rfl rfl (m' := 7) rfl (Pur.fieldAddr rfl) ?_
  refine JM.take 3 (fun _ h => h) rfl (by kernel_rfl) rfl rfl rfl (m' := 15) rfl (Pur.load rfl (CellIn.blk rfl)) ?_
  refine JM.take 4 (fun _ h => h) rfl (by kernel_rfl) rfl rfl rfl (m' := 31) rfl (Pur.move rfl) ?_
  refine JM.take 5 (fun _ h => h) rfl (by kernel_rfl) rfl rfl rfl (m' := 63) rfl (Pur.move rfl) ?_
  refine JM.take 6 (fun _ h => h) rfl (by kernel_rfl) rfl rfl rfl (m' := 127) rfl (Pur.nilCheck rfl) ?_
  refine JM.take 7 (fun _ h => h) rfl (by kernel_rfl) rfl rfl rfl (m' := 255) rfl (Pur.fieldAddr rfl) ?_
  refine JM.take 8 (fun _ h => h) rfl (by kernel_rfl) rfl rfl rfl (m' := 511) rfl (Pur.load rfl (CellIn.blk rfl)) ?_
  refine JM.takeF 9 (.inr (fun _ h => h)) rfl (by kernel_rfl) rfl rfl rfl (m' := 1023) rfl (Pur.move rfl) ?_
  refine JM.take 10 (fun _ h => h) rfl (by kernel_rfl) rfl rfl rfl (m' := 2047) rfl (Pur.move rfl) ?_
  refine JM.take 11 (fun _ h => h) rfl (by kernel_rfl) rfl rfl rfl (m' := 4095) rfl (Pur.idx rfl rfl rfl (by first | rfl | (simp; done) | omega | (rw [natI_len]; omega)) rfl (by omega)) ?_
  refine JM.one (i := 12) (by kernel_rfl) ?_
  refine JMi.effN rfl rfl rfl (m' := 8191) rfl (Eff.storeS0 (z' := z) rfl rfl rfl rfl (getD_get 0 (by omega)) .head) ?_
  rintro _ _ ⟨rfl, rfl⟩
  refine ⟨.inl (by simp), ?_⟩
  refine JM.one (i := 13) (by kernel_rfl) ?_
  refine JMi.eff rfl rfl rfl rfl (m' := 16383) rfl (Pur.eff (Pur.idx rfl rfl rfl (by first | rfl | (simp; done) | omega | (rw [natI_len]; omega)) rfl (by omega))) ?_
  rintro _ _ ⟨rfl, rfl⟩
  refine ⟨.inl (.inr (by kernel_rfl)), ?_⟩
  refine JM.one (i := 14) (by kernel_rfl) ?_
  refine JMi.effN rfl rfl rfl (m' := 32767) rfl (Eff.storeS0 (z' := true) rfl rfl rfl rfl (getD_get false (by omega)) .head) ?_
  rintro _ _ ⟨rfl, rfl⟩
  refine ⟨.inl (by simp), ?_⟩
  refine JM.done rfl ?_
  refine J.seq rfl ?_
  refine J.mask0 (n := 15) [9] rfl Try.mixed rfl (by kernel_rfl) ?_
  refine JM.take 0 (fun _ h => h) rfl (by kernel_rfl) rfl rfl rfl (m' := 1) rfl (Pur.move rfl) ?_
  refine JM.take 1 (fun _ h => h) rfl (by kernel_rfl) rfl rfl rfl (m' := 3) rfl (Pur.nilCheck rfl) ?_
  refine JM.take 2 (fun _ h => h) rfl (by kernel_rfl) rfl rfl rfl (m' := 7) rfl (Pur.fieldAddr rfl) ?_
  refine JM.take 3 (fun _ h => h) rfl (by kernel_rfl) rfl rfl rfl (m' := 15) rfl (Pur.load rfl (CellIn.blk rfl)) ?_
  refine JM.setv (u' := .int .i64 ((X.sum.length : Nat) : Int)) 26 rfl rfl ?_
  refine JM.take 4 (fun _ h => h) rfl (by kernel_rfl) rfl rfl rfl (m' := 31) rfl (Pur.move rfl) ?_
  refine JM.take 5 (fun _ h => h) rfl (by kernel_rfl) rfl rfl rfl (m' := 63) rfl (Pur.nilCheck rfl) ?_
  refine JM.take 6 (fun _ h => h) rfl (by kernel_rfl) rfl rfl rfl (m' := 127) rfl (Pur.fieldAddr rfl) ?_
  refine JM.take 7 (fun _ h => h) rfl (by kernel_rfl) rfl rfl rfl (m' := 255) rfl (Pur.load rfl (CellIn.blk rfl)) ?_
  refine JM.setv (u' := .int .i64 ((rrt X : Nat) : Int)) 30 rfl (congrArg (Value.int .i64) (by unfold rrt; exact (Int.toNat_of_nonneg hr0).symm)) ?_
  refine JM.take 8 (fun _ h => h) rfl (by kernel_rfl) rfl rfl rfl (m' := 511) rfl (Pur.move rfl) ?_
  refine JM.one (i := 9) (by kernel_rfl) ?_
  refine JMi.eff rfl rfl rfl rfl (m' := 1023) rfl (Eff.call rfl (rChildren_ok (n := ((X.sum.length : Nat) : Int)) (root := ((rrt X : Nat) : Int)) (q := (i : Int)))) ?_
  rintro _ _ ⟨a32, c32, rfl, rfl⟩
  refine ⟨.inl (by simp), ?_⟩
  rw [hcv.1, hcv.2]
  obtain ⟨CH, hCH⟩ : ∃ l, l = (chP X.sum.length (rrt X) i) := ⟨_, rfl⟩
  rw [← hCH]
  refine JM.takeF 10 (.inl (by kernel_rfl)) rfl (by kernel_rfl) rfl rfl rfl (m' := 2047) rfl (Pur.move rfl) ?_
  refine JM.takeF 11 (.inl (by kernel_rfl)) rfl (by kernel_rfl) rfl rfl rfl (m' := 4095) rfl (Pur.extract rfl rfl) ?_
  refine JM.takeF 12 (.inl (by kernel_rfl)) rfl (by kernel_rfl) rfl rfl rfl (m' := 8191) rfl (Pur.extract rfl rfl) ?_
  refine JM.takeF 13 (.inl (by kernel_rfl)) rfl (by kernel_rfl) rfl rfl rfl (m' := 16383) rfl (Pur.assign rfl) ?_
  refine JM.takeF 14 (.inl (by kernel_rfl)) rfl (by kernel_rfl) rfl rfl rfl (m' := 32767) rfl (Pur.assign rfl) ?_
  refine JM.done rfl ?_
  refine J.seq rfl ?_
  refine J.region rfl ?_
  refine JO.pur rfl rfl rfl (Pur.assign rfl) ?_
  refine JO.nil ?_
  refine J.block rfl ?_
  refine J.loopF (ι := Nat) (fun q => q ≤ CH.length) (fun q => [(8, .int .i64 (q : Int))]) [(0, _), (1, _), (2, _), (6, _)] (fun q => RB p (pkR (setHas (setSum X i z) i true) i z (CH.take q)) :: sl intE a32 c32 (natI CH) :: L) (fun q => CH.length - q) 0 rfl (.cons rfl rfl (.cons rfl rfl (.cons rfl rfl (.cons rfl rfl .nil)))) (.cons rfl rfl .nil) (fun h s => by have e1 : X.sum.length = (X.sum.set i z).length := (by simp); have e2 : X.has.length = (X.has.set i true).length := (by simp); rw [e1, e2] at s; exact (fun h s => RB_mk (R := (setHas (setSum X i z) i true)) (L := (sl intE a32 c32 (natI CH) :: L)) ⟨sa, sc, ha, hc, ga, gc, ra, rc, ba, bc, fa, fc, hs⟩ hb (show Sat h (blk p (rC X.kind X.op X.root (X.sum.set i z).length sa sc ha (X.has.set i true).length hc ga X.got.length gc ra X.rnd.length rc ba X.beg.length bc fa X.fly.length fc X.sent) :: sl intE sa sc (X.sum.set i z) :: sl boE ha hc (X.has.set i true) :: sl grE ga gc (hs.zip X.got) :: star (List.zipWith gA hs X.got) :: sl natE ra rc X.rnd :: sl boE ba bc X.beg :: slQ rmE fa fc X.fly :: sl intE a32 c32 (natI CH) :: L) from SubC.out h s)) h s) (Nat.zero_le _) ?_
  rintro q hq ihq
  try dsimp only
  refine J.seq rfl ?_
  refine J.seq rfl ?_
  refine J.region rfl ?_
  refine JO.pur rfl rfl rfl (Pur.move rfl) ?_
  refine JO.pur rfl rfl rfl (Pur.move rfl) ?_
  refine JO.pur rfl rfl rfl (Pur.len rfl) ?_
  refine JO.pur rfl rfl rfl (Pur.lss rfl rfl) ?_
  refine JO.nil ?_
  refine J.splitB 38 rfl (fun h38 => ?_) (fun h38 => ?_)
  · try simp only [bSimp, bSimp2, ne_eq] at h38
    have hc3 : CH.length ≤ 3 := by rw [hCH]; exact chP_len _ _ _
    have hnl := natI_len CH
    have hql : q < CH.length := by omega
    obtain ⟨c, hX⟩ : ∃ c, CH[q]? = some c := ⟨_, List.getElem?_eq_getElem hql⟩
    have htk : CH.take (q + 1) = CH.take q ++ [c] := take_get hX
    have hwq : WR n (pkR (setHas (setSum X i z) i true) i z (CH.take q)) := WR.pk _ _ (hw.cast1 hi) (fun c hc => by have h0 := List.mem_of_mem_take hc; rw [hCH] at h0; have := ch_lt h0 (by omega); omega)
    have hfl : (pkR (setHas (setSum X i z) i true) i z (CH.take q)).fly.length ≤ 100000 := by rw [pkR_fly, List.length_append, List.length_map, List.length_take]; show X.fly.length + _ ≤ _; omega
    refine J.condT rfl rfl ?_
    refine J.skip rfl ?_
    refine J.seq rfl ?_
    refine J.block rfl ?_
    refine J.region rfl ?_
    refine JO.pur rfl rfl rfl (Pur.move rfl) ?_
    refine JO.pur rfl rfl rfl (Pur.move rfl) ?_
    refine JO.pur rfl rfl rfl (Pur.move rfl) ?_
    refine JO.pur rfl rfl rfl (Pur.move rfl) ?_
    refine JO.pur rfl rfl rfl (Pur.idx rfl rfl rfl (by first | rfl | (simp; done) | omega | (rw [natI_len]; omega)) rfl (by rw [natI_len]; exact hql)) ?_
    refine JO.pur rfl rfl rfl (Pur.load rfl (CellIn.el0 rfl (natI_get hX) rfl)) ?_
    refine JO.setv (u' := .int .i64 (c : Int)) 46 rfl rfl ?_
    refine JO.pur rfl rfl rfl (Pur.move rfl) ?_
    refine JO.pur rfl rfl rfl (Pur.build (cs := [_, _, _, _, _]) rfl rfl) ?_
    refine JO.eff rfl rfl rfl (Eff.call rfl (rsend_ok (X := pkR (setHas (setSum X i z) i true) i z (CH.take q)) (m := ⟨i, c, 0, z, true⟩) hwq hfl)) ?_
    rintro _ _ ⟨rfl, rfl⟩
    refine JO.nil ?_
    refine J.inBlock ?_
    refine J.region rfl ?_
    refine JO.pur rfl rfl rfl (Pur.move rfl) ?_
    refine JO.pur rfl rfl rfl (Pur.add rfl rfl (wr64 (by omega))) ?_
    refine JO.pur rfl rfl rfl (Pur.assign rfl) ?_
    refine JO.nil ?_
    exact J.weaken (.cons rfl (congrArg (Value.int .i64) (by first | rfl | (dsimp only; omega))) (.cons rfl rfl (.cons rfl rfl (.cons rfl rfl (.cons rfl rfl .nil))))) (fun h s => by rw [htk, pkR_snoc]; exact SubC.out h s) (ihq (q + 1) (by omega) (by omega))
  · try simp only [bSimp, bSimp2, ne_eq] at h38
    have hnl := natI_len CH
    have hqe : q = CH.length := by omega
    refine J.condF rfl rfl ?_
    refine J.exit rfl rfl ?_
    refine J.fin rfl ?_
    refine ⟨_, _, ⟨rfl, rfl⟩, rfl, fun h s => ?_⟩
    rw [hqe, List.take_length] at s
    show Sat h (RB p (pkR (setHas (setSum X i z) i true) i z (chP X.sum.length (rrt X) i)) :: L)
    rw [← hCH]
    exact SubC.out h s

end Go.Proofs.Ytoikjjpleonllaa
