/-
  A part of the proof of the claim that this folder bears.
-/
import Derived.Test.YtoikjjpleonllaaPAI
import Derived.Test.YtoikjjpleonllaaPAE
import Derived.Test.YtoikjjpleonllaaKC
/- The text GSI. -/
set_option linter.unusedVariables false
set_option linter.unusedSimpArgs false
/-! What is kept while a scan goes on. -/
namespace Gr
open Go Go.KK
abbrev Id2 := Nat × Nat
def vS (o : ByteArray) (vs : Nat → Int) (p : Nat) : Nat → Int
  | 0 => vs p
  | r + 1 => if 2 ^ r ≤ p then opV o (vS o vs (p - 2 ^ r) r) (vS o vs p r) else vS o vs p r
section
variable (n : Nat) (o : ByteArray) (vs : Nat → Int)
def mS : Id2 → Ms := fun i => ⟨i.1, i.1 + 2 ^ i.2, vS o vs i.1 i.2, false, i.2⟩
theorem mS_inj : ∀ i j : Id2, mS o vs i = mS o vs j → i = j
  | (p, r), (q, s), h => by unfold mS at h; injection h with h1 h2 h3 h4 h5; dsimp only at h1 h5; rw [h1, h5]
def TS (ph : Nat → Nat) (g : Gs) (i : Id2) : Prop := i.1 < n ∧ 1 ≤ ph i.1 ∧ i.2 ≤ (mem g i.1).r ∧ i.1 + 2 ^ i.2 < n
structure SJ (t : Nat) (D : Id2 → Bool) (ph : Nat → Nat) (g : Gs) : Prop where
  hn : n < 9
  len : g.ms.length = n
  hkd : g.kind = sScan
  hop : g.op = o
  hwf : wf g
  val : ∀ p, p < n → (mem g p).v = vS o vs p (mem g p).r
  got : ∀ p, p < n → ∀ r : Nat, lookI (mem g p).got (r : Int) = if 2 ^ r ≤ p ∧ D (p - 2 ^ r, r) = true then some (vS o vs (p - 2 ^ r) r) else none
  rd : ∀ p, p < n → ∀ r, r < (mem g p).r → 2 ^ r < n ∧ (2 ^ r ≤ p → D (p - 2 ^ r, r) = true)
  raw : ∀ p, p < n → ph p = 0 → (mem g p).r = 0
  run : ∀ p, p < n → ph p ≤ 1 → (mem g p).has = false
  fin : ∀ p, p < n → ph p = 2 → (n ≤ 2 ^ (mem g p).r ∧ (mem g p).has = true ∧ (mem g p).res = (mem g p).v) ∨ (2 ^ (mem g p).r < n ∧ 2 ^ (mem g p).r ≤ p ∧ ¬ D (p - 2 ^ (mem g p).r, (mem g p).r) = true ∧ (mem g p).has = false)
  fly : FlyIs (mS o vs) (fun i => TS n ph g i ∧ ¬ D i = true) g.fly
  cl : ∀ i, D i = true → TS n ph g i
  sent : g.sent = wr ((t : Int) + (g.fly.length : Int))
end
def upd (ph : Nat → Nat) (p x : Nat) : Nat → Nat := fun q => if q = p then x else ph q
theorem upd_self (ph : Nat → Nat) (p x : Nat) : upd ph p x p = x := if_pos rfl
theorem upd_ne (ph : Nat → Nat) {p q : Nat} (x : Nat) (h : q ≠ p) : upd ph p x q = ph q := if_neg h
section
variable {n : Nat} {o : ByteArray} {vs : Nat → Int} {t : Nat} {D : Id2 → Bool} {ph : Nat → Nat} {g : Gs}
theorem send_at (g : Gs) (p : Nat) (hv : (mem g p).v = vS o vs p (mem g p).r) : send g p = if p + 2 ^ (mem g p).r < g.ms.length then put g (mS o vs (p, (mem g p).r)) else g := by
  unfold send mS; rw [hv]
/-- A member sends. -/
theorem fly_send {T : Id2 → Prop} (g : Gs) {p : Nat} (hl : g.ms.length = n) (hv : (mem g p).v = vS o vs p (mem g p).r) (hf : FlyIs (mS o vs) T g.fly) (hT : ¬ T (p, (mem g p).r)) (hs : g.sent = wr ((t : Int) + (g.fly.length : Int))) :
    FlyIs (mS o vs) (fun j => T j ∨ (p + 2 ^ (mem g p).r < n ∧ j = (p, (mem g p).r))) (send g p).fly ∧ (send g p).sent = wr ((t : Int) + ((send g p).fly.length : Int)) := by
  rw [send_at g p hv, hl]
  split
  · rename_i h
    refine ⟨(hf.add (mS_inj o vs) hT).congr fun j => ?_, ?_⟩
    · exact ⟨fun g => g.elim .inl (fun g => .inr g.2), fun g => g.elim .inl (fun g => .inr ⟨h, g⟩)⟩
    · show wr (g.sent + 1) = wr ((t : Int) + ((g.fly ++ [_]).length : Int))
      rw [hs, wr_add, List.length_append]; rfl
  · rename_i h
    exact ⟨hf.congr fun j => ⟨fun g => g.elim id (fun g => absurd g.1 h), .inl⟩, hs⟩
theorem mem_send (g : Gs) (p q : Nat) : mem (send g p) q = mem g q := by unfold mem; rw [send_ms]
theorem send_same (g : Gs) (p : Nat) : (send g p).kind = g.kind ∧ (send g p).op = g.op := ⟨(send_op g p).2.1, (send_op g p).1⟩
/-- A round is done. -/
theorem SJ.adv (h : SJ n o vs t D ph g) {p : Nat} (hp : p < n) (hph : ph p = 1) (hr : 2 ^ (mem g p).r < n) (hD : 2 ^ (mem g p).r ≤ p → D (p - 2 ^ (mem g p).r, (mem g p).r) = true) {m : Mm} (hm : m = { mem g p with v := vS o vs p ((mem g p).r + 1), r := (mem g p).r + 1 }) :
    SJ n o vs t D ph (send (setM g p m) p) := by
  have hlp : p < g.ms.length := by rw [h.len]; exact hp
  have h2 := r_lt h.hwf hlp (by rw [h.len]; exact hr)
  have hmr : m.r = (mem g p).r + 1 := by rw [hm]
  have hmv : m.v = vS o vs p ((mem g p).r + 1) := by rw [hm]
  have hmg : m.got = (mem g p).got := by rw [hm]
  have hmh : m.has = (mem g p).has := by rw [hm]
  have hmX : ∀ q, mem (send (setM g p m) p) q = if q = p then m else mem g q := fun q => by rw [mem_send, mem_setM hlp]
  have hmY : mem (setM g p m) p = m := by rw [mem_setM hlp, if_pos rfl]
  have hw1 := wf_set (p := p) (m := m) h.hwf (by omega)
  have hcl : ¬ D (p, (mem g p).r + 1) = true := fun e => by have := (h.cl _ e).2.2.1; dsimp only at this; omega
  have hs := send_same (setM g p m) p
  have hf := fly_send (T := fun i => TS n ph g i ∧ ¬ D i = true) (o := o) (vs := vs) (n := n) (t := t) (setM g p m) (p := p) ((set_len _ _ _).trans h.len) (by rw [hmY, hmv, hmr]) h.fly (fun e => by have := e.1.2.2.1; rw [hmY, hmr] at this; dsimp only at this; omega) h.sent
  rw [hmY, hmr] at hf
  have hTS : ∀ i, TS n ph (send (setM g p m) p) i ↔ TS n ph g i ∨ (p + 2 ^ ((mem g p).r + 1) < n ∧ i = (p, (mem g p).r + 1)) := by
    rintro ⟨q, r⟩
    unfold TS
    dsimp only
    rw [hmX]
    by_cases e : q = p
    · subst e
      rw [if_pos rfl, hmr]
      constructor
      · rintro ⟨a1, a2, a3, a4⟩
        by_cases e2 : r = (mem g q).r + 1
        · subst e2; exact .inr ⟨a4, rfl⟩
        · exact .inl ⟨a1, a2, by omega, a4⟩
      · rintro (⟨a1, a2, a3, a4⟩ | ⟨a, e2⟩)
        · exact ⟨a1, a2, by omega, a4⟩
        · injection e2 with _ e3; subst e3; exact ⟨hp, by omega, Nat.le_refl _, a⟩
    · rw [if_neg e]
      exact ⟨.inl, fun g => g.elim id (fun g => by injection g.2 with e1; exact absurd e1 e)⟩
  refine ⟨h.hn, by rw [send_len, set_len]; exact h.len, hs.1.trans h.hkd, hs.2.trans h.hop, wf_send hw1 (by rw [set_len]; exact hlp), fun q hq => ?_, fun q hq r => ?_, fun q hq r hr2 => ?_, fun q hq hph2 => ?_, fun q hq hph2 => ?_, fun q hq hph2 => ?_, hf.1.congr fun i => ?_, fun i hi => (hTS i).2 (.inl (h.cl i hi)), hf.2⟩
  · rw [hmX]; split
    · rename_i e; rw [hmv, hmr, e]
    · exact h.val q hq
  · rw [hmX]; split
    · rename_i e; rw [hmg, e]; exact h.got p hp r
    · exact h.got q hq r
  · rw [hmX] at hr2
    by_cases e : q = p
    · rw [if_pos e, hmr] at hr2
      rw [e]
      by_cases e2 : r = (mem g p).r
      · rw [e2]; exact ⟨hr, hD⟩
      · exact h.rd p hp r (by omega)
    · rw [if_neg e] at hr2; exact h.rd q hq r hr2
  · have e : q ≠ p := fun e => by rw [e, hph] at hph2; cases hph2
    rw [hmX, if_neg e]; exact h.raw q hq hph2
  · rw [hmX]; split
    · rw [hmh]; exact h.run p hp (by omega)
    · exact h.run q hq hph2
  · have e : q ≠ p := fun e => by rw [e, hph] at hph2; cases hph2
    rw [hmX, if_neg e]; exact h.fin q hq hph2
  · rw [hTS]
    constructor
    · rintro ⟨a | a, b⟩
      · exact .inl ⟨a, b⟩
      · exact .inr a
    · rintro (⟨a, b⟩ | a)
      · exact ⟨.inl a, b⟩
      · exact ⟨.inr a, by rw [a.2]; exact hcl⟩
theorem TS_upd {p : Nat} {x : Nat} (hph : 1 ≤ ph p) (hx : 1 ≤ x) (g : Gs) (i : Id2) : TS n (upd ph p x) g i ↔ TS n ph g i := by
  unfold TS
  by_cases e : i.1 = p
  · rw [e, upd_self]; exact ⟨fun ⟨a, b, c⟩ => ⟨a, hph, c⟩, fun ⟨a, b, c⟩ => ⟨a, hx, c⟩⟩
  · rw [upd_ne _ _ e]
theorem SJ.wait (h : SJ n o vs t D ph g) {p : Nat} (hp : p < n) (hph : ph p = 1) (hr : 2 ^ (mem g p).r < n) (h2 : 2 ^ (mem g p).r ≤ p) (hD : ¬ D (p - 2 ^ (mem g p).r, (mem g p).r) = true) : SJ n o vs t D (upd ph p 2) g := by
  refine ⟨h.hn, h.len, h.hkd, h.hop, h.hwf, h.val, h.got, h.rd, fun q hq e => ?_, fun q hq e => ?_, fun q hq e => ?_, h.fly.congr fun i => by rw [TS_upd (by omega) (by omega)], fun i hi => (TS_upd (by omega) (by omega) g i).2 (h.cl i hi), h.sent⟩
  · by_cases e2 : q = p
    · rw [e2, upd_self] at e; cases e
    · rw [upd_ne _ _ e2] at e; exact h.raw q hq e
  · by_cases e2 : q = p
    · rw [e2, upd_self] at e; omega
    · rw [upd_ne _ _ e2] at e; exact h.run q hq e
  · by_cases e2 : q = p
    · rw [e2]; exact .inr ⟨hr, h2, hD, h.run p hp (by omega)⟩
    · rw [upd_ne _ _ e2] at e; exact h.fin q hq e
theorem SJ.done (h : SJ n o vs t D ph g) {p : Nat} (hp : p < n) (hph : ph p = 1) (hr : ¬ 2 ^ (mem g p).r < n) : SJ n o vs t D (upd ph p 2) (setM g p { mem g p with res := (mem g p).v, has := true }) := by
  have hlp : p < g.ms.length := by rw [h.len]; exact hp
  have h9 := h.hwf.2.2.1 _ (mem_mem hlp)
  have hmX := mem_setM (m := { mem g p with res := (mem g p).v, has := true }) hlp
  have hrX : ∀ q, (mem (setM g p { mem g p with res := (mem g p).v, has := true }) q).r = (mem g q).r := fun q => by rw [hmX]; split <;> simp_all
  have hTS : ∀ i, TS n (upd ph p 2) (setM g p { mem g p with res := (mem g p).v, has := true }) i ↔ TS n ph g i := fun i => by
    rw [TS_upd (by omega) (by omega)]; unfold TS; rw [hrX]
  refine ⟨h.hn, by rw [set_len]; exact h.len, h.hkd, h.hop, wf_set h.hwf h9, fun q hq => ?_, fun q hq r => ?_, fun q hq r hr2 => ?_, fun q hq e => ?_, fun q hq e => ?_, fun q hq e => ?_, h.fly.congr fun i => by rw [hTS], fun i hi => (hTS i).2 (h.cl i hi), h.sent⟩
  · rw [hrX, hmX]; split
    · rename_i e; rw [e]; exact h.val p hp
    · exact h.val q hq
  · rw [hmX]; split
    · rename_i e; rw [e]; exact h.got p hp r
    · exact h.got q hq r
  · rw [hrX] at hr2; exact h.rd q hq r hr2
  · by_cases e2 : q = p
    · rw [e2, upd_self] at e; cases e
    · rw [upd_ne _ _ e2] at e; rw [hrX]; exact h.raw q hq e
  · by_cases e2 : q = p
    · rw [e2, upd_self] at e; omega
    · rw [upd_ne _ _ e2] at e; rw [hmX, if_neg e2]; exact h.run q hq e
  · by_cases e2 : q = p
    · rw [e2, hmX, if_pos rfl]; exact .inl ⟨Nat.le_of_not_lt hr, rfl, rfl⟩
    · rw [upd_ne _ _ e2] at e; rw [hmX, if_neg e2]; exact h.fin q hq e
/-- A member goes on as far as it can. -/
theorem SJ.scan : ∀ (f : Nat) {g : Gs}, SJ n o vs t D ph g → ∀ {p : Nat}, p < n → ph p = 1 → 4 ≤ f + (mem g p).r → SJ n o vs t D (upd ph p 2) (scan f g p)
  | 0, g, h, p, hp, hph, hf => by have := h.hwf.2.2.1 _ (mem_mem (show p < g.ms.length by rw [h.len]; exact hp)); omega
  | f + 1, g, h, p, hp, hph, hf => by
    have hlp : p < g.ms.length := by rw [h.len]; exact hp
    have hgo := h.got p hp (mem g p).r
    by_cases hr : 2 ^ (mem g p).r < n
    · have hr' : 2 ^ (mem g p).r < g.ms.length := by rw [h.len]; exact hr
      have next : (2 ^ (mem g p).r ≤ p → D (p - 2 ^ (mem g p).r, (mem g p).r) = true) → ∀ m : Mm, m = { mem g p with v := vS o vs p ((mem g p).r + 1), r := (mem g p).r + 1 } → SJ n o vs t D (upd ph p 2) (Gr.scan f (send (setM g p m) p) p) := fun hD m hm => by
        have h1 := h.adv hp hph hr hD hm
        exact SJ.scan f h1 hp hph (by rw [mem_send, mem_setM hlp, if_pos rfl, hm]; dsimp only; omega)
      by_cases hp2 : 2 ^ (mem g p).r ≤ p
      · by_cases hD : D (p - 2 ^ (mem g p).r, (mem g p).r) = true
        · rw [if_pos ⟨hp2, hD⟩] at hgo
          rw [scan_some hlp hr' hp2 hgo]
          refine next (fun _ => hD) _ ?_
          have e : opV g.op (vS o vs (p - 2 ^ (mem g p).r) (mem g p).r) (mem g p).v = vS o vs p ((mem g p).r + 1) := by
            show _ = if 2 ^ (mem g p).r ≤ p then _ else _
            rw [if_pos hp2, h.val p hp, h.hop]
          rw [e]
        · rw [if_neg (fun e => hD e.2)] at hgo
          rw [scan_wait hr' hp2 hgo]
          exact h.wait hp hph hr hp2 hD
      · rw [scan_go hr' hp2]
        refine next (fun e => absurd e hp2) _ ?_
        have e : (mem g p).v = vS o vs p ((mem g p).r + 1) := by
          show _ = if 2 ^ (mem g p).r ≤ p then _ else _
          rw [if_neg hp2, h.val p hp]
        rw [← e]
    · rw [scan_end (by rw [h.len]; exact hr)]
      exact h.done hp hph hr
/-- The beginning of one. -/
theorem SJ.start (h : SJ n o vs t D ph g) {p : Nat} (hp : p < n) (hph : ph p = 0) : SJ n o vs t D (upd ph p 2) (Gr.scan 4 (send g p) p) := by
  have hlp : p < g.ms.length := by rw [h.len]; exact hp
  have hr0 := h.raw p hp hph
  have hcl : ∀ r, ¬ D (p, r) = true := fun r e => by have := (h.cl _ e).2.1; dsimp only at this; omega
  have hs := send_same g p
  have hf := fly_send (T := fun i => TS n ph g i ∧ ¬ D i = true) (o := o) (vs := vs) (n := n) (t := t) g (p := p) h.len (h.val p hp) h.fly (fun e => by have := e.1.2.1; dsimp only at this; omega) h.sent
  rw [hr0] at hf
  have hTS : ∀ i, TS n (upd ph p 1) (send g p) i ↔ TS n ph g i ∨ (p + 2 ^ 0 < n ∧ i = (p, 0)) := by
    rintro ⟨q, r⟩
    unfold TS
    dsimp only
    rw [mem_send]
    by_cases e : q = p
    · subst e
      rw [upd_self, hr0]
      constructor
      · rintro ⟨a1, a2, a3, a4⟩
        have : r = 0 := by omega
        subst this; exact .inr ⟨a4, rfl⟩
      · rintro (⟨a1, a2, a3, a4⟩ | ⟨a, e2⟩)
        · omega
        · injection e2 with _ e3; subst e3; exact ⟨hp, by omega, Nat.le_refl _, a⟩
    · rw [upd_ne _ _ e]
      exact ⟨.inl, fun g => g.elim id (fun g => by injection g.2 with e1; exact absurd e1 e)⟩
  have h1 : SJ n o vs t D (upd ph p 1) (send g p) := by
    refine ⟨h.hn, by rw [send_len]; exact h.len, hs.1.trans h.hkd, hs.2.trans h.hop, wf_send h.hwf hlp, fun q hq => ?_, fun q hq r => ?_, fun q hq r hr2 => ?_, fun q hq e => ?_, fun q hq e => ?_, fun q hq e => ?_, hf.1.congr fun i => ?_, fun i hi => (hTS i).2 (.inl (h.cl i hi)), hf.2⟩
    · rw [mem_send]; exact h.val q hq
    · rw [mem_send]; exact h.got q hq r
    · rw [mem_send] at hr2; exact h.rd q hq r hr2
    · by_cases e2 : q = p
      · rw [e2, upd_self] at e; cases e
      · rw [upd_ne _ _ e2] at e; rw [mem_send]; exact h.raw q hq e
    · rw [mem_send]
      by_cases e2 : q = p
      · rw [e2]; exact h.run p hp (by omega)
      · rw [upd_ne _ _ e2] at e; exact h.run q hq e
    · by_cases e2 : q = p
      · rw [e2, upd_self] at e; cases e
      · rw [upd_ne _ _ e2] at e; rw [mem_send]; exact h.fin q hq e
    · rw [hTS]
      constructor
      · rintro ⟨a | a, b⟩
        · exact .inl ⟨a, b⟩
        · exact .inr a
      · rintro (⟨a, b⟩ | a)
        · exact ⟨.inl a, b⟩
        · exact ⟨.inr a, by rw [a.2]; exact hcl 0⟩
  have h2 := SJ.scan 4 h1 hp (upd_self _ _ _) (by omega)
  have e : upd (upd ph p 1) p 2 = upd ph p 2 := by funext q; unfold upd; split <;> rfl
  rwa [e] at h2
def on2 (D : Id2 → Bool) (i : Id2) : Id2 → Bool := fun j => D j || decide (j = i)
theorem on2_iff {i j : Id2} : on2 D i j = true ↔ D j = true ∨ j = i := by unfold on2; simp
/-- A message comes. -/
theorem SJ.dlv (h : SJ n o vs t D (fun _ => 2) g) {k : Nat} {i : Id2} (hk : g.fly[k]? = some (mS o vs i)) (hi : TS n (fun _ => 2) g i) (hDi : ¬ D i = true) : SJ n o vs (t + 1) (on2 D i) (fun _ => 2) (dlvS g k) := by
  obtain ⟨q, r⟩ := i
  obtain ⟨hq, -, hrq, hqr⟩ := id hi
  dsimp only at hq hrq hqr
  have hl := (List.getElem?_eq_some_iff.1 hk).1
  have hm : msg g k = mS o vs (q, r) := Option.some.inj ((msg_get hl).symm.trans hk)
  obtain ⟨p, hpe⟩ : ∃ p, p = q + 2 ^ r := ⟨_, rfl⟩
  have hp : p < n := by omega
  have hqe : q = p - 2 ^ r := by omega
  have hle : 2 ^ r ≤ p := by omega
  have hlp : p < (takeM g k).ms.length := by show p < g.ms.length; rw [h.len]; exact hp
  obtain ⟨m1, hm1⟩ : ∃ m1 : Mm, m1 = { mem g p with got := setI (mem g p).got (r : Int) (vS o vs q r) } := ⟨_, rfl⟩
  have hgot : gotM g (msg g k) = m1 := by rw [hm, hm1, hpe]; rfl
  have hto : (msg g k).to = p := by rw [hm, hpe]; rfl
  have hd : dlvS g k = Gr.scan 4 (setM (takeM g k) p m1) p := by unfold dlvS; rw [hgot, hto]
  have hmr : m1.r = (mem g p).r := by rw [hm1]
  have hmX : ∀ x, mem (setM (takeM g k) p m1) x = if x = p then m1 else mem g x := fun x => mem_setM hlp x
  have hrX : ∀ x, (mem (setM (takeM g k) p m1) x).r = (mem g x).r := fun x => by rw [hmX]; split; (rename_i e; rw [e, hmr]); rfl
  have h9 := h.hwf.2.2.1 _ (mem_mem (show p < g.ms.length by rw [h.len]; exact hp))
  have hTS : ∀ i, TS n (upd (fun _ => 2) p 1) (setM (takeM g k) p m1) i ↔ TS n (fun _ => 2) g i := fun i => by
    rw [TS_upd (by decide) (by decide)]; unfold TS; rw [hrX]
  have hhas : (mem g p).has = false := by
    rcases h.fin p hp rfl with ⟨a, -, -⟩ | ⟨-, -, -, a⟩
    · exfalso
      have hrp : r < (mem g p).r := Classical.byContradiction fun e => by
        have := Nat.pow_le_pow_right (show 0 < 2 by decide) (Nat.le_of_not_lt e)
        omega
      have := (h.rd p hp r hrp).2 hle
      rw [← hqe] at this
      exact hDi this
    · exact a
  have h1 : SJ n o vs (t + 1) (on2 D (q, r)) (upd (fun _ => 2) p 1) (setM (takeM g k) p m1) := by
    refine ⟨h.hn, by rw [set_len]; exact h.len, h.hkd, h.hop, wf_set (wf_take h.hwf k) (by rw [hmr]; exact h9), fun x hx => ?_, fun x hx s => ?_, fun x hx s hs => ?_, fun x hx e => ?_, fun x hx e => ?_, fun x hx e => ?_, (h.fly.del (mS_inj o vs) hk).congr fun j => ?_, fun j hj => ?_, ?_⟩
    · rw [hrX, hmX]; split
      · rename_i e; rw [hm1, e]; exact h.val p hp
      · exact h.val x hx
    · rw [hmX]; split
      · rename_i e; subst e
        rw [hm1]
        show lookI (setI (mem g x).got (r : Int) (vS o vs q r)) (s : Int) = _
        rw [lookI_set]
        by_cases e2 : s = r
        · rw [e2, if_pos rfl, ← hqe, if_pos ⟨hle, on2_iff.2 (.inr rfl)⟩]
        · rw [if_neg (by omega), h.got x hx s]
          have : on2 D (q, r) (x - 2 ^ s, s) = D (x - 2 ^ s, s) := by unfold on2; simp [e2]
          rw [this]
      · rename_i e
        rw [h.got x hx s]
        by_cases e2 : 2 ^ s ≤ x
        · have : on2 D (q, r) (x - 2 ^ s, s) = D (x - 2 ^ s, s) := by
            unfold on2
            have : (x - 2 ^ s, s) ≠ (q, r) := fun e3 => by injection e3 with e4 e5; subst e5; omega
            simp [this]
          rw [this]
        · rw [if_neg (fun g => e2 g.1), if_neg (fun g => e2 g.1)]
    · rw [hrX] at hs
      obtain ⟨a, b⟩ := h.rd x hx s hs
      exact ⟨a, fun c => on2_iff.2 (.inl (b c))⟩
    · by_cases e2 : x = p
      · rw [e2, upd_self] at e; cases e
      · rw [upd_ne _ _ e2] at e; cases e
    · by_cases e2 : x = p
      · rw [hmX, if_pos e2, hm1]; exact hhas
      · rw [upd_ne _ _ e2] at e; omega
    · by_cases e2 : x = p
      · rw [e2, upd_self] at e; cases e
      · rw [hmX, if_neg e2]
        rcases h.fin x hx rfl with a | ⟨a1, a2, a3, a4⟩
        · exact .inl a
        · refine .inr ⟨a1, a2, fun g1 => ?_, a4⟩
          rcases on2_iff.1 g1 with g1 | g1
          · exact a3 g1
          · injection g1 with g2 g3; rw [g3] at g2 a2; omega
    · rw [hTS, on2_iff]
      exact ⟨fun ⟨a, b⟩ => ⟨⟨a, fun c => b (.inl c)⟩, fun c => b (.inr c)⟩, fun ⟨⟨a, b⟩, c⟩ => ⟨a, fun d => d.elim b c⟩⟩
    · rw [hTS]
      rcases on2_iff.1 hj with a | rfl
      · exact h.cl j a
      · exact hi
    · show g.sent = _
      rw [h.sent]
      congr 1
      show _ = ((t + 1 : Nat) : Int) + ((g.fly.take k ++ g.fly.drop (k + 1)).length : Int)
      have : (g.fly.take k ++ g.fly.drop (k + 1)).length + 1 = g.fly.length := by rw [List.length_append, List.length_take, List.length_drop]; omega
      omega
  have h2 := SJ.scan 4 h1 hp (upd_self _ _ _) (by omega)
  have e : upd (upd (fun _ => 2) p 1) p 2 = fun _ => 2 := by funext x; unfold upd; split <;> rfl
  rw [e] at h2
  rw [hd]; exact h2
end
end Gr

/- The text GAC. -/
set_option linter.unusedVariables false
set_option linter.unusedSimpArgs false
/-! Folding. -/
namespace Gr
open Go Go.KK
def fold1 (o : ByteArray) : List Int → Int
  | [] => 0
  | x :: l => l.foldl (opV o) x
/-- A member and all below it. -/
def descF (n root : Nat) : Nat → Nat → List Nat
  | 0, c => [c]
  | f + 1, c => c :: (chP n root c).flatMap (descF n root f)
/-! Scans from beginning to end. -/
def ids2 (n : Nat) : List Id2 := (List.range n).flatMap fun p => ((List.range 3).filter fun r => decide (p + 2 ^ r < n)).map fun r => (p, r)
theorem ids2_nodup : ∀ n, n < 9 → (ids2 n).Nodup := by decide +kernel
set_option synthInstance.maxHeartbeats 400000 in
set_option synthInstance.maxSize 2000 in
theorem ids2_mem' : ∀ n, n < 9 → ∀ p, p < n → ∀ r, r < 4 → p + 2 ^ r < n → (p, r) ∈ ids2 n := by decide +kernel
theorem ids2_le : ∀ n, n < 9 → (ids2 n).length ≤ 17 := by decide +kernel
section
variable {n : Nat} {o : ByteArray} {vs : Nat → Int} {t : Nat} {D : Id2 → Bool} {ph : Nat → Nat} {g : Gs}
def D2 : Id2 → Bool := fun _ => false
theorem D2n (i : Id2) : ¬ D2 i = true := fun e => by unfold D2 at e; cases e
theorem SJ.cong {ph' : Nat → Nat} (h : SJ n o vs t D ph g) (e : ∀ q, q < n → ph' q = ph q) : SJ n o vs t D ph' g := by
  have hT : ∀ i, TS n ph' g i ↔ TS n ph g i := fun i => by
    unfold TS
    constructor
    · rintro ⟨a, b⟩; rw [e _ a] at b; exact ⟨a, b⟩
    · rintro ⟨a, b⟩; rw [← e _ a] at b; exact ⟨a, b⟩
  exact ⟨h.hn, h.len, h.hkd, h.hop, h.hwf, h.val, h.got, h.rd, fun p hp g => h.raw p hp (by rw [← e p hp]; exact g), fun p hp g => h.run p hp (by rw [← e p hp]; exact g), fun p hp g => h.fin p hp (by rw [← e p hp]; exact g), h.fly.congr fun i => by rw [hT], fun i hi => (hT i).2 (h.cl i hi), h.sent⟩
/-- A scan at its very beginning. -/
structure RawS (n : Nat) (o : ByteArray) (vs : Nat → Int) (g : Gs) : Prop where
  hn : n < 9
  len : g.ms.length = n
  hkd : g.kind = sScan
  hop : g.op = o
  hwf : wf g
  mm : ∀ p, p < n → (mem g p).v = vs p ∧ (mem g p).r = 0 ∧ (mem g p).got = [] ∧ (mem g p).has = false
  fly : g.fly = []
  sent : g.sent = 0
theorem RawS.sj (h : RawS n o vs g) : SJ n o vs 0 D2 (fun _ => 0) g := by
  refine ⟨h.hn, h.len, h.hkd, h.hop, h.hwf, fun p hp => by rw [(h.mm p hp).2.1]; exact (h.mm p hp).1, fun p hp r => ?_, fun p hp r hr => ?_, fun p hp _ => (h.mm p hp).2.1, fun p hp _ => (h.mm p hp).2.2.2, fun p hp e => (by cases e), ?_, fun i hi => absurd hi (D2n i), ?_⟩
  · rw [(h.mm p hp).2.2.1, if_neg (fun g => D2n _ g.2)]; rfl
  · rw [(h.mm p hp).2.1] at hr; exact absurd hr (Nat.not_lt_zero _)
  · rw [h.fly]; exact FlyIs.nil fun i g => by have := g.1.2.1; dsimp only at this; omega
  · rw [h.sent, h.fly]; decide
theorem RawS.beg (h : RawS n o vs g) : ∀ k, k ≤ n → SJ n o vs 0 D2 (fun q => if q < k then 2 else 0) (begS g k)
  | 0, _ => h.sj.cong fun q _ => rfl
  | k + 1, hk => by
    have h1 := (RawS.beg h k (by omega)).start (p := k) (by omega) (if_neg (Nat.lt_irrefl k))
    refine h1.cong fun q hq => ?_
    unfold upd
    dsimp only
    by_cases e : q = k
    · rw [if_pos e, if_pos (by omega)]
    · rw [if_neg e]
      by_cases e2 : q < k
      · rw [if_pos e2, if_pos (by omega)]
      · rw [if_neg e2, if_neg (by omega)]
def GdS (n : Nat) (o : ByteArray) (vs : Nat → Int) (t : Nat) (g : Gs) : Prop := (∃ D, SJ n o vs t D (fun _ => 2) g ∧ t = ((ids2 n).filter D).length) ∧ g.fly.length ≤ 40 + 4 * t
theorem RawS.good (h : RawS n o vs g) : GdS n o vs 0 (beginG g) := by
  have e : beginG g = begS g n := by unfold beginG; rw [if_neg (by rw [h.hkd]; decide), if_pos h.hkd, h.len]
  rw [e]
  have hk := begS_keep h.hwf n (by rw [h.len]; exact Nat.le_refl _)
  refine ⟨⟨D2, (h.beg n (Nat.le_refl _)).cong fun q hq => (if_pos hq).symm, ?_⟩, ?_⟩
  · rw [List.filter_eq_nil_iff.2 (fun a _ => D2n a)]; rfl
  · have := hk.2.2.1
    rw [h.fly] at this
    have := h.hn
    simp at *; omega
theorem TS_ids (h : SJ n o vs t D ph g) {i : Id2} (hi : TS n ph g i) : i ∈ ids2 n := by
  obtain ⟨p, r⟩ := i
  obtain ⟨a1, a2, a3, a4⟩ := hi
  have := h.hwf.2.2.1 _ (mem_mem (show p < g.ms.length by rw [h.len]; exact a1))
  dsimp only at a3
  exact ids2_mem' n h.hn p a1 r (by omega) a4
theorem GdS.step (h : GdS n o vs t g) {k : Nat} (hk : k < g.fly.length) : GdS n o vs (t + 1) (dlvS g k) := by
  obtain ⟨⟨D, hT, ht⟩, hf⟩ := h
  obtain ⟨i, ⟨h1, h2⟩, h3⟩ := hT.fly.get (List.mem_of_getElem? (msg_get hk))
  have hk2 : g.fly[k]? = some (mS o vs i) := by rw [← h3]; exact msg_get hk
  have hc := cnt_one (D := D) (i := i) (by simpa using h2) (ids2_nodup n hT.hn) (TS_ids hT h1)
  have hkk := dlvS_keep hT.hwf hk
  exact ⟨⟨on2 D i, hT.dlv hk2 h1 h2, by rw [ht, ← hc]; rfl⟩, by have := hkk.2.2.1; omega⟩
theorem GdS.le (h : GdS n o vs t g) : t ≤ 17 := by
  obtain ⟨⟨D, hT, ht⟩, hf⟩ := h
  have := ids2_le n hT.hn
  have h2 := List.length_filter_le D (ids2 n)
  omega
/-- When nothing flies, all are done. -/
theorem SJ.ends (h : SJ n o vs t D (fun _ => 2) g) (he : g.fly = []) : ∀ p, p < n → n ≤ 2 ^ (mem g p).r ∧ (mem g p).has = true ∧ (mem g p).res = (mem g p).v := by
  intro p
  induction p using Nat.strongRecOn with
  | _ p ih =>
    intro hp
    rcases h.fin p hp rfl with a | ⟨a1, a2, a3, a4⟩
    · exact a
    · exfalso
      have hpos : 0 < 2 ^ (mem g p).r := Nat.pow_pos (by decide)
      have hq := (ih (p - 2 ^ (mem g p).r) (by omega) (by omega)).1
      refine h.fly.none he (p - 2 ^ (mem g p).r, (mem g p).r) ⟨⟨by dsimp only; omega, by dsimp only; omega, ?_, by dsimp only; omega⟩, a3⟩
      dsimp only
      exact Classical.byContradiction fun e => by
        have := Nat.pow_le_pow_right (show 0 < 2 by decide) (Nat.le_of_lt (Nat.lt_of_not_le e))
        omega
end
end Gr

/- The text G15. -/
set_option linter.unusedVariables false
set_option linter.unusedSimpArgs false
set_option maxRecDepth 10000
namespace Go.Proofs.Ytoikjjpleonllaa
open Go Go.KK Gr

def valE : Enc (Int × Bool) := ⟨94, 2, fun p => [.int .i64 p.1, .bool p.2], fun _ => rfl, fun s v h => by
  simp only [List.mem_cons, List.not_mem_nil, or_false] at h; rcases h with rfl | rfl <;> rfl⟩
def tru (b : Bool) : Int := if b = true then 1 else 0
/-- What the document's operation makes of two. -/
def rOp (o : ByteArray) (a b : Int) : Int :=
  if o = ⟨#[43]⟩ then wr (a + b) else if o = ⟨#[42]⟩ then wr (a * b) else if o = ⟨#[109, 105, 110]⟩ then min a b else if o = ⟨#[109, 97, 120]⟩ then max a b
  else if o = ⟨#[38]⟩ then tru (decide (a = 1 ∧ b = 1)) else tru (decide (a = 1 ∨ b = 1))
theorem truth_ok {L : List Asn} {b : Bool} :
    CallS Try.prog 85 [.bool b].toArray L (fun v M => v = .agg #[.int .i64 (tru b), .bool true] ∧ M = L) := by
  refine CallS.ent ?_
  refine CallS.enter Try.func85 rfl rfl rfl rfl rfl ?_
  refine J.seq rfl ?_
  refine J.region rfl ?_
  refine JO.eff rfl rfl rfl (Eff.alloc (cs := [_, _]) rfl) ?_
  rintro _ _ ⟨b2, rfl, rfl⟩
  refine JO.nil ?_
  refine J.seq rfl ?_
  refine J.seq rfl ?_
  refine J.region rfl ?_
  refine JO.pur rfl rfl rfl (Pur.move rfl) ?_
  refine JO.nil ?_
  refine J.splitB 3 rfl (fun h3 => ?_) (fun h3 => ?_)
  · try simp only [bSimp, bSimp2, ne_eq] at h3
    refine J.condT rfl rfl ?_
    refine J.seq rfl ?_
    refine J.region rfl ?_
    refine JO.pur rfl rfl rfl (Pur.build (cs := [_, _]) rfl rfl) ?_
    refine JO.effN rfl rfl (Eff.storeBA (cs' := [_, _]) rfl rfl (by rfl) (by rfl) (by rfl)) ?_
    rintro _ _ ⟨rfl, rfl⟩
    refine JO.nil ?_
    refine J.retC rfl (.cell rfl (ld_agg rfl CellsIn.blk) .nil) ?_
    refine ⟨_, _, ⟨rfl, rfl⟩, by rw [h3]; rfl, fun h s => SubC.out h s⟩
  · try simp only [bSimp, bSimp2, ne_eq] at h3
    refine J.condF rfl rfl ?_
    refine J.skip rfl ?_
    refine J.seq rfl ?_
    refine J.region rfl ?_
    refine JO.pur rfl rfl rfl (Pur.build (cs := [_, _]) rfl rfl) ?_
    refine JO.effN rfl rfl (Eff.storeBA (cs' := [_, _]) rfl rfl (by rfl) (by rfl) (by rfl)) ?_
    rintro _ _ ⟨rfl, rfl⟩
    refine JO.nil ?_
    refine J.retC rfl (.cell rfl (ld_agg rfl CellsIn.blk) .nil) ?_
    refine ⟨_, _, ⟨rfl, rfl⟩, by rw [h3]; rfl, fun h s => SubC.out h s⟩

theorem rop_ok {L : List Asn} {op : ByteArray} {a b : Int} {la : Option Addr} {n cap : Nat} [SlIn valE L la [(a, false), (b, false)]] (ho : okOp op) (hn : n = 2) :
    CallS Try.prog 62 [.string op, .slice la n cap].toArray L (fun v M => ∃ bb, v = .tuple #[.agg #[.int .i64 (rOp op a b), .bool bb], .bool true, .bool true] ∧ M = L) := by
  subst hn
  refine CallS.ent ?_
  refine CallS.enter Try.func62 rfl rfl rfl rfl rfl ?_
  refine J.seq rfl ?_
  refine J.region rfl ?_
  refine JO.eff rfl rfl rfl (Eff.alloc (cs := [_, _]) rfl) ?_
  rintro _ _ ⟨b4, rfl, rfl⟩
  refine JO.pur rfl rfl rfl (Pur.assign rfl) ?_
  refine JO.pur rfl rfl rfl (Pur.assign rfl) ?_
  refine JO.nil ?_
  refine J.seq rfl ?_
  refine J.seq rfl ?_
  refine J.region rfl ?_
  refine JO.pur rfl rfl rfl (Pur.move rfl) ?_
  refine JO.pur rfl rfl rfl (Pur.len rfl) ?_
  refine JO.pur rfl rfl rfl (Pur.eqlI rfl rfl) ?_
  refine JO.nil ?_
  refine J.setv (u' := .bool false) 11 rfl (congrArg Value.bool (decide_eq_false (by decide))) ?_
  refine J.condF rfl rfl ?_
  refine J.skip rfl ?_
  refine J.seq rfl ?_
  refine J.seq rfl ?_
  refine J.region rfl ?_
  refine JO.pur rfl rfl rfl (Pur.move rfl) ?_
  refine JO.pur rfl rfl rfl (Pur.len rfl) ?_
  refine JO.pur rfl rfl rfl (Pur.neqI rfl rfl) ?_
  refine JO.nil ?_
  refine J.setv (u' := .bool false) 31 rfl (congrArg Value.bool (decide_eq_false (by simp))) ?_
  refine J.condF rfl rfl ?_
  refine J.skip rfl ?_
  refine J.seq rfl ?_
  refine J.quiet rfl Try.mixed (by kernel_rfl) ?_
  refine JQ.pur rfl rfl rfl (Pur.move rfl) ?_
  refine JQ.pur rfl rfl rfl (Pur.idx rfl rfl rfl (by first | rfl | (simp; done) | omega) (show (0 : Int) = ((0 : Nat) : Int) from rfl) (by simp)) ?_
  refine JQ.pur rfl rfl rfl (Pur.fieldAddr rfl) ?_
  refine JQ.pur rfl rfl rfl (Pur.load rfl (CellIn.el rfl rfl rfl)) ?_
  refine JQ.setv (u' := .int .i64 a) 36 rfl rfl ?_
  refine JQ.pur rfl rfl rfl (Pur.move rfl) ?_
  refine JQ.pur rfl rfl rfl (Pur.idx rfl rfl rfl (by first | rfl | (simp; done) | omega) (show (1 : Int) = ((1 : Nat) : Int) from rfl) (by simp)) ?_
  refine JQ.pur rfl rfl rfl (Pur.fieldAddr rfl) ?_
  refine JQ.pur rfl rfl rfl (Pur.load rfl (CellIn.el rfl rfl rfl)) ?_
  refine JQ.setv (u' := .int .i64 b) 40 rfl rfl ?_
  refine JQ.pur rfl rfl rfl (Pur.assign rfl) ?_
  refine JQ.pur rfl rfl rfl (Pur.assign rfl) ?_
  refine JQ.nil ?_
  refine J.seq rfl ?_
  refine J.seq rfl ?_
  refine J.region rfl ?_
  refine JO.pur rfl rfl rfl (Pur.move rfl) ?_
  refine JO.nil ?_
  refine J.block rfl ?_
  refine J.seq rfl ?_
  refine J.region rfl ?_
  refine JO.pur rfl rfl rfl (Pur.eqlT rfl rfl) ?_
  refine JO.pur rfl rfl rfl (Pur.assign rfl) ?_
  refine JO.nil ?_
  refine J.splitB 42 rfl (fun h42 => ?_) (fun h42 => ?_)
  · try simp only [bSimp, bSimp2, ne_eq] at h42
    refine J.condT rfl rfl ?_
    refine J.seq rfl ?_
    refine J.region rfl ?_
    refine JO.pur rfl rfl rfl (Pur.move rfl) ?_
    refine JO.pur rfl rfl rfl (Pur.move rfl) ?_
    refine JO.pur rfl rfl rfl (Pur.addW rfl rfl) ?_
    refine JO.pur rfl rfl rfl (Pur.build (cs := [_, _]) rfl rfl) ?_
    refine JO.effN rfl rfl (Eff.storeBA (cs' := [_, _]) rfl rfl (by rfl) (by rfl) (by rfl)) ?_
    rintro _ _ ⟨rfl, rfl⟩
    refine JO.pur rfl rfl rfl (Pur.assign rfl) ?_
    refine JO.pur rfl rfl rfl (Pur.assign rfl) ?_
    refine JO.nil ?_
    refine J.retC rfl (.cell rfl (ld_agg rfl CellsIn.blk) (.tmp rfl (.tmp rfl .nil))) ?_
    have hv : rOp op a b = wr (a + b) := by unfold rOp; rw [if_pos h42]
    exact ⟨_, _, ⟨_, rfl, rfl⟩, by rw [hv]; rfl, fun h s => SubC.out h s⟩
  · try simp only [bSimp, bSimp2, ne_eq] at h42
    refine J.condF rfl rfl ?_
    refine J.seq rfl ?_
    refine J.region rfl ?_
    refine JO.pur rfl rfl rfl (Pur.eqlT rfl rfl) ?_
    refine JO.pur rfl rfl rfl (Pur.assign rfl) ?_
    refine JO.nil ?_
    refine J.splitB 48 rfl (fun h48 => ?_) (fun h48 => ?_)
    · try simp only [bSimp, bSimp2, ne_eq] at h48
      exfalso; revert h48; rcases ho with e | e | e | e | e | e <;> (rw [e]; decide)
    · try simp only [bSimp, bSimp2, ne_eq] at h48
      refine J.condF rfl rfl ?_
      refine J.seq rfl ?_
      refine J.region rfl ?_
      refine JO.pur rfl rfl rfl (Pur.eqlT rfl rfl) ?_
      refine JO.pur rfl rfl rfl (Pur.assign rfl) ?_
      refine JO.nil ?_
      refine J.splitB 54 rfl (fun h54 => ?_) (fun h54 => ?_)
      · try simp only [bSimp, bSimp2, ne_eq] at h54
        refine J.condT rfl rfl ?_
        refine J.seq rfl ?_
        refine J.region rfl ?_
        refine JO.pur rfl rfl rfl (Pur.move rfl) ?_
        refine JO.pur rfl rfl rfl (Pur.move rfl) ?_
        refine JO.pur rfl rfl rfl (Pur.mulW rfl rfl) ?_
        refine JO.pur rfl rfl rfl (Pur.build (cs := [_, _]) rfl rfl) ?_
        refine JO.effN rfl rfl (Eff.storeBA (cs' := [_, _]) rfl rfl (by rfl) (by rfl) (by rfl)) ?_
        rintro _ _ ⟨rfl, rfl⟩
        refine JO.pur rfl rfl rfl (Pur.assign rfl) ?_
        refine JO.pur rfl rfl rfl (Pur.assign rfl) ?_
        refine JO.nil ?_
        refine J.retC rfl (.cell rfl (ld_agg rfl CellsIn.blk) (.tmp rfl (.tmp rfl .nil))) ?_
        have hv : rOp op a b = wr (a * b) := by unfold rOp; rw [if_neg h42, if_pos h54]
        exact ⟨_, _, ⟨_, rfl, rfl⟩, by rw [hv]; rfl, fun h s => SubC.out h s⟩
      · try simp only [bSimp, bSimp2, ne_eq] at h54
        refine J.condF rfl rfl ?_
        refine J.seq rfl ?_
        refine J.seq rfl ?_
        refine J.region rfl ?_
        refine JO.pur rfl rfl rfl (Pur.eqlT rfl rfl) ?_
        refine JO.pur rfl rfl rfl (Pur.assign rfl) ?_
        refine JO.nil ?_
        refine J.splitB 60 rfl (fun h60 => ?_) (fun h60 => ?_)
        · try simp only [bSimp, bSimp2, ne_eq] at h60
          exfalso; revert h60; rcases ho with e | e | e | e | e | e <;> (rw [e]; decide)
        · try simp only [bSimp, bSimp2, ne_eq] at h60
          refine J.condF rfl rfl ?_
          refine J.region rfl ?_
          refine JO.pur rfl rfl rfl (Pur.eqlT rfl rfl) ?_
          refine JO.pur rfl rfl rfl (Pur.assign rfl) ?_
          refine JO.nil ?_
          refine J.splitB 60 rfl (fun h60 => ?_) (fun h60 => ?_)
          · try simp only [bSimp, bSimp2, ne_eq] at h60
            exfalso; revert h60; rcases ho with e | e | e | e | e | e <;> (rw [e]; decide)
          · try simp only [bSimp, bSimp2, ne_eq] at h60
            refine J.condF rfl rfl ?_
            refine J.seq rfl ?_
            refine J.region rfl ?_
            refine JO.pur rfl rfl rfl (Pur.eqlT rfl rfl) ?_
            refine JO.pur rfl rfl rfl (Pur.assign rfl) ?_
            refine JO.nil ?_
            refine J.splitB 76 rfl (fun h76 => ?_) (fun h76 => ?_)
            · try simp only [bSimp, bSimp2, ne_eq] at h76
              refine J.condT rfl rfl ?_
              refine J.seq rfl ?_
              refine J.region rfl ?_
              refine JO.pur rfl rfl rfl (Pur.move rfl) ?_
              refine JO.pur rfl rfl rfl (Pur.move rfl) ?_
              refine JO.pur rfl rfl rfl (Pur.min2 rfl rfl) ?_
              refine JO.pur rfl rfl rfl (Pur.build (cs := [_, _]) rfl rfl) ?_
              refine JO.effN rfl rfl (Eff.storeBA (cs' := [_, _]) rfl rfl (by rfl) (by rfl) (by rfl)) ?_
              rintro _ _ ⟨rfl, rfl⟩
              refine JO.pur rfl rfl rfl (Pur.assign rfl) ?_
              refine JO.pur rfl rfl rfl (Pur.assign rfl) ?_
              refine JO.nil ?_
              refine J.retC rfl (.cell rfl (ld_agg rfl CellsIn.blk) (.tmp rfl (.tmp rfl .nil))) ?_
              have hv : rOp op a b = min a b := by unfold rOp; rw [if_neg h42, if_neg h54, if_pos h76]
              exact ⟨_, _, ⟨_, rfl, rfl⟩, by rw [hv]; rfl, fun h s => SubC.out h s⟩
            · try simp only [bSimp, bSimp2, ne_eq] at h76
              refine J.condF rfl rfl ?_
              refine J.seq rfl ?_
              refine J.region rfl ?_
              refine JO.pur rfl rfl rfl (Pur.eqlT rfl rfl) ?_
              refine JO.pur rfl rfl rfl (Pur.assign rfl) ?_
              refine JO.nil ?_
              refine J.splitB 82 rfl (fun h82 => ?_) (fun h82 => ?_)
              · try simp only [bSimp, bSimp2, ne_eq] at h82
                refine J.condT rfl rfl ?_
                refine J.seq rfl ?_
                refine J.region rfl ?_
                refine JO.pur rfl rfl rfl (Pur.move rfl) ?_
                refine JO.pur rfl rfl rfl (Pur.move rfl) ?_
                refine JO.pur rfl rfl rfl (Pur.max2 rfl rfl) ?_
                refine JO.pur rfl rfl rfl (Pur.build (cs := [_, _]) rfl rfl) ?_
                refine JO.effN rfl rfl (Eff.storeBA (cs' := [_, _]) rfl rfl (by rfl) (by rfl) (by rfl)) ?_
                rintro _ _ ⟨rfl, rfl⟩
                refine JO.pur rfl rfl rfl (Pur.assign rfl) ?_
                refine JO.pur rfl rfl rfl (Pur.assign rfl) ?_
                refine JO.nil ?_
                refine J.retC rfl (.cell rfl (ld_agg rfl CellsIn.blk) (.tmp rfl (.tmp rfl .nil))) ?_
                have hv : rOp op a b = max a b := by unfold rOp; rw [if_neg h42, if_neg h54, if_neg h76, if_pos h82]
                exact ⟨_, _, ⟨_, rfl, rfl⟩, by rw [hv]; rfl, fun h s => SubC.out h s⟩
              · try simp only [bSimp, bSimp2, ne_eq] at h82
                refine J.condF rfl rfl ?_
                refine J.seq rfl ?_
                refine J.region rfl ?_
                refine JO.pur rfl rfl rfl (Pur.eqlT rfl rfl) ?_
                refine JO.pur rfl rfl rfl (Pur.assign rfl) ?_
                refine JO.nil ?_
                refine J.splitB 88 rfl (fun h88 => ?_) (fun h88 => ?_)
                · try simp only [bSimp, bSimp2, ne_eq] at h88
                  exfalso; revert h88; rcases ho with e | e | e | e | e | e <;> (rw [e]; decide)
                · try simp only [bSimp, bSimp2, ne_eq] at h88
                  refine J.condF rfl rfl ?_
                  refine J.seq rfl ?_
                  refine J.region rfl ?_
                  refine JO.pur rfl rfl rfl (Pur.eqlT rfl rfl) ?_
                  refine JO.pur rfl rfl rfl (Pur.assign rfl) ?_
                  refine JO.nil ?_
                  refine J.splitB 94 rfl (fun h94 => ?_) (fun h94 => ?_)
                  · try simp only [bSimp, bSimp2, ne_eq] at h94
                    exfalso; revert h94; rcases ho with e | e | e | e | e | e <;> (rw [e]; decide)
                  · try simp only [bSimp, bSimp2, ne_eq] at h94
                    refine J.condF rfl rfl ?_
                    refine J.seq rfl ?_
                    refine J.region rfl ?_
                    refine JO.pur rfl rfl rfl (Pur.eqlT rfl rfl) ?_
                    refine JO.pur rfl rfl rfl (Pur.assign rfl) ?_
                    refine JO.nil ?_
                    refine J.splitB 100 rfl (fun h100 => ?_) (fun h100 => ?_)
                    · try simp only [bSimp, bSimp2, ne_eq] at h100
                      exfalso; revert h100; rcases ho with e | e | e | e | e | e <;> (rw [e]; decide)
                    · try simp only [bSimp, bSimp2, ne_eq] at h100
                      refine J.condF rfl rfl ?_
                      refine J.seq rfl ?_
                      refine J.region rfl ?_
                      refine JO.pur rfl rfl rfl (Pur.eqlT rfl rfl) ?_
                      refine JO.pur rfl rfl rfl (Pur.assign rfl) ?_
                      refine JO.nil ?_
                      refine J.splitB 106 rfl (fun h106 => ?_) (fun h106 => ?_)
                      · try simp only [bSimp, bSimp2, ne_eq] at h106
                        refine J.condT rfl rfl ?_
                        refine J.seq rfl ?_
                        refine J.region rfl ?_
                        refine JO.pur rfl rfl rfl (Pur.move rfl) ?_
                        refine JO.pur rfl rfl rfl (Pur.eqlI rfl rfl) ?_
                        refine JO.pur rfl rfl rfl (Pur.move rfl) ?_
                        refine JO.splitB 110 rfl (fun h110 => ?_) (fun h110 => ?_)
                        · try simp only [bSimp, bSimp2, ne_eq] at h110
                          refine JO.pur rfl rfl rfl (Pur.move rfl) ?_
                          refine JO.pur rfl rfl rfl (Pur.eqlI rfl rfl) ?_
                          refine JO.pur rfl rfl rfl (Pur.pickT rfl rfl) ?_
                          refine JO.effR rfl rfl rfl (Eff.call rfl (truth_ok)) ?_
                          refine JO.effN rfl rfl (Eff.storeBA (cs' := [_, _]) rfl rfl (by rfl) (by rfl) (by rfl)) ?_
                          rintro _ _ ⟨rfl, rfl⟩
                          refine JO.pur rfl rfl rfl (Pur.assign rfl) ?_
                          refine JO.pur rfl rfl rfl (Pur.assign rfl) ?_
                          refine JO.nil ?_
                          refine J.retC rfl (.cell rfl (ld_agg rfl CellsIn.blk) (.tmp rfl (.tmp rfl .nil))) ?_
                          have hv : rOp op a b = tru (decide (b = 1)) := by unfold rOp; rw [if_neg h42, if_neg h54, if_neg h76, if_neg h82, if_pos h106]; congr 1; simp [h110]
                          exact ⟨_, _, ⟨_, rfl, rfl⟩, by rw [hv]; rfl, fun h s => SubC.out h s⟩
                        · try simp only [bSimp, bSimp2, ne_eq] at h110
                          refine JO.no rfl rfl rfl ?_
                          refine JO.no rfl rfl rfl ?_
                          refine JO.pur rfl rfl rfl (Pur.pickF rfl rfl) ?_
                          refine JO.effR rfl rfl rfl (Eff.call rfl (truth_ok)) ?_
                          refine JO.effN rfl rfl (Eff.storeBA (cs' := [_, _]) rfl rfl (by rfl) (by rfl) (by rfl)) ?_
                          rintro _ _ ⟨rfl, rfl⟩
                          refine JO.pur rfl rfl rfl (Pur.assign rfl) ?_
                          refine JO.pur rfl rfl rfl (Pur.assign rfl) ?_
                          refine JO.nil ?_
                          refine J.retC rfl (.cell rfl (ld_agg rfl CellsIn.blk) (.tmp rfl (.tmp rfl .nil))) ?_
                          have hv : rOp op a b = tru false := by unfold rOp; rw [if_neg h42, if_neg h54, if_neg h76, if_neg h82, if_pos h106]; congr 1; simp [h110]
                          exact ⟨_, _, ⟨_, rfl, rfl⟩, by rw [hv]; rfl, fun h s => SubC.out h s⟩
                      · try simp only [bSimp, bSimp2, ne_eq] at h106
                        refine J.condF rfl rfl ?_
                        refine J.seq rfl ?_
                        refine J.region rfl ?_
                        refine JO.pur rfl rfl rfl (Pur.eqlT rfl rfl) ?_
                        refine JO.pur rfl rfl rfl (Pur.assign rfl) ?_
                        refine JO.nil ?_
                        refine J.splitB 115 rfl (fun h115 => ?_) (fun h115 => ?_)
                        · try simp only [bSimp, bSimp2, ne_eq] at h115
                          refine J.condT rfl rfl ?_
                          refine J.seq rfl ?_
                          refine J.region rfl ?_
                          refine JO.pur rfl rfl rfl (Pur.move rfl) ?_
                          refine JO.pur rfl rfl rfl (Pur.eqlI rfl rfl) ?_
                          refine JO.pur rfl rfl rfl (Pur.move rfl) ?_
                          refine JO.splitB 119 rfl (fun h119 => ?_) (fun h119 => ?_)
                          · try simp only [bSimp, bSimp2, ne_eq] at h119
                            refine JO.no rfl rfl rfl ?_
                            refine JO.no rfl rfl rfl ?_
                            refine JO.pur rfl rfl rfl (Pur.pickT rfl rfl) ?_
                            refine JO.effR rfl rfl rfl (Eff.call rfl (truth_ok)) ?_
                            refine JO.effN rfl rfl (Eff.storeBA (cs' := [_, _]) rfl rfl (by rfl) (by rfl) (by rfl)) ?_
                            rintro _ _ ⟨rfl, rfl⟩
                            refine JO.pur rfl rfl rfl (Pur.assign rfl) ?_
                            refine JO.pur rfl rfl rfl (Pur.assign rfl) ?_
                            refine JO.nil ?_
                            refine J.retC rfl (.cell rfl (ld_agg rfl CellsIn.blk) (.tmp rfl (.tmp rfl .nil))) ?_
                            have hv : rOp op a b = tru true := by unfold rOp; rw [if_neg h42, if_neg h54, if_neg h76, if_neg h82, if_neg h106]; congr 1; simp [h119]
                            exact ⟨_, _, ⟨_, rfl, rfl⟩, by rw [hv]; rfl, fun h s => SubC.out h s⟩
                          · try simp only [bSimp, bSimp2, ne_eq] at h119
                            refine JO.pur rfl rfl rfl (Pur.move rfl) ?_
                            refine JO.pur rfl rfl rfl (Pur.eqlI rfl rfl) ?_
                            refine JO.pur rfl rfl rfl (Pur.pickF rfl rfl) ?_
                            refine JO.effR rfl rfl rfl (Eff.call rfl (truth_ok)) ?_
                            refine JO.effN rfl rfl (Eff.storeBA (cs' := [_, _]) rfl rfl (by rfl) (by rfl) (by rfl)) ?_
                            rintro _ _ ⟨rfl, rfl⟩
                            refine JO.pur rfl rfl rfl (Pur.assign rfl) ?_
                            refine JO.pur rfl rfl rfl (Pur.assign rfl) ?_
                            refine JO.nil ?_
                            refine J.retC rfl (.cell rfl (ld_agg rfl CellsIn.blk) (.tmp rfl (.tmp rfl .nil))) ?_
                            have hv : rOp op a b = tru (decide (b = 1)) := by unfold rOp; rw [if_neg h42, if_neg h54, if_neg h76, if_neg h82, if_neg h106]; congr 1; simp [h119]
                            exact ⟨_, _, ⟨_, rfl, rfl⟩, by rw [hv]; rfl, fun h s => SubC.out h s⟩
                        · try simp only [bSimp, bSimp2, ne_eq] at h115
                          refine J.condF rfl rfl ?_
                          refine J.skip rfl ?_
                          refine J.inBlock ?_
                          refine J.seq rfl ?_
                          refine J.region rfl ?_
                          refine JO.pur rfl rfl rfl (Pur.build (cs := [_, _]) rfl rfl) ?_
                          refine JO.effN rfl rfl (Eff.storeBA (cs' := [_, _]) rfl rfl (by rfl) (by rfl) (by rfl)) ?_
                          rintro _ _ ⟨rfl, rfl⟩
                          refine JO.pur rfl rfl rfl (Pur.assign rfl) ?_
                          refine JO.pur rfl rfl rfl (Pur.assign rfl) ?_
                          refine JO.nil ?_
                          refine J.retC rfl (.cell rfl (ld_agg rfl CellsIn.blk) (.tmp rfl (.tmp rfl .nil))) ?_
                          exfalso; rcases ho with e | e | e | e | e | e
                          · exact h42 e
                          · exact h54 e
                          · exact h76 e
                          · exact h82 e
                          · exact h106 e
                          · exact h115 e

theorem rOp2_ok {L : List Asn} {op : ByteArray} {a b : Int} {la : Option Addr} {n cap : Nat} [SlIn intE L la [a, b]] (ho : okOp op) (hn : n = 2) :
    CallS Try.prog 29 [.string op, .slice la n cap].toArray L (fun v M => v = .tuple #[.int .i64 (rOp op a b), .bool true, .int .i64 0] ∧ M = L) := by
  subst hn
  refine CallS.ent ?_
  refine CallS.enter Try.func29 rfl rfl rfl rfl rfl ?_
  refine J.seq rfl ?_
  refine J.region rfl ?_
  refine JO.pur rfl rfl rfl (Pur.assign rfl) ?_
  refine JO.pur rfl rfl rfl (Pur.assign rfl) ?_
  refine JO.pur rfl rfl rfl (Pur.assign rfl) ?_
  refine JO.nil ?_
  refine J.seq rfl ?_
  refine J.region rfl ?_
  refine JO.pur rfl rfl rfl (Pur.assign rfl) ?_
  refine JO.nil ?_
  refine J.seq rfl ?_
  refine J.seq rfl ?_
  refine J.region rfl ?_
  refine JO.pur rfl rfl rfl (Pur.assign rfl) ?_
  refine JO.nil ?_
  refine J.block rfl ?_
  refine J.loopF (ι := Nat × Option Addr × Nat) (fun q => q.1 ≤ 2) (fun q => [(7, .slice q.2.1 q.1 q.2.2), (8, .int .i64 (q.1 : Int))]) [(0, _), (1, _)] (fun q => sl valE q.2.1 q.2.2 (([a, b].take q.1).map fun x => (x, false)) :: L) (fun q => 2 - q.1) (0, none, 0) rfl (.cons rfl rfl (.cons rfl rfl .nil)) (.cons rfl rfl (.cons rfl rfl .nil)) (fun h s => by have s2 := sl_nil_new (E := valE) s; exact s2) (Nat.zero_le _) ?_
  rintro ⟨q, a7, c7⟩ hq ihq
  try dsimp only
  dsimp only at hq
  have hpl : (([a, b].take q).map fun x => (x, false)).length = q := by simp; omega
  refine J.seq rfl ?_
  refine J.seq rfl ?_
  refine J.region rfl ?_
  refine JO.pur rfl rfl rfl (Pur.move rfl) ?_
  refine JO.pur rfl rfl rfl (Pur.move rfl) ?_
  refine JO.pur rfl rfl rfl (Pur.len rfl) ?_
  refine JO.pur rfl rfl rfl (Pur.lss rfl rfl) ?_
  refine JO.nil ?_
  refine J.splitB 15 rfl (fun h15 => ?_) (fun h15 => ?_)
  · try simp only [bSimp, bSimp2, ne_eq] at h15
    have hql : q < 2 := by simp at h15; omega
    obtain ⟨x, hX⟩ : ∃ x, [a, b][q]? = some x := ⟨_, List.getElem?_eq_getElem (by simpa using hql)⟩
    have htk : (([a, b].take (q + 1)).map fun x => (x, false)) = (([a, b].take q).map fun x => (x, false)) ++ [(x, false)] := by rw [take_get hX, List.map_append]; rfl
    refine J.condT rfl rfl ?_
    refine J.skip rfl ?_
    refine J.seq rfl ?_
    refine J.block rfl ?_
    refine J.region rfl ?_
    refine JO.pur rfl rfl rfl (Pur.move rfl) ?_
    refine JO.pur rfl rfl rfl (Pur.move rfl) ?_
    refine JO.pur rfl rfl rfl (Pur.move rfl) ?_
    refine JO.pur rfl rfl rfl (Pur.idx rfl rfl rfl (by first | rfl | (simp; done) | omega) rfl (by simpa using hql)) ?_
    refine JO.pur rfl rfl rfl (Pur.load rfl (CellIn.el0 rfl hX rfl)) ?_
    refine JO.setv (u' := .int .i64 x) 22 rfl rfl ?_
    refine JO.pur rfl rfl rfl (Pur.build (cs := [_, _]) rfl rfl) ?_
    refine JO.eff rfl rfl rfl (Eff.buildSlice valE [(x, false)] rfl rfl rfl rfl rfl rfl rfl) ?_
    rintro _ _ ⟨b24, rfl, -, rfl⟩
    refine JO.eff rfl rfl rfl (Eff.append rfl rfl rfl rfl (by first | rfl | omega | (simp; done) | (simp; omega)) (by first | rfl | omega | (simp; done) | (simp; omega)) (by decide) (by rw [hpl]; simp; omega) (by rw [hpl]; simp; omega) (fun h => by cases h)) ?_
    rintro _ _ ⟨a25, c25, rfl, rfl⟩
    refine JO.setv (u' := .slice a25 (q + 1) c25) 25 rfl (by rw [hpl]; rfl) ?_
    refine JO.pur rfl rfl rfl (Pur.assign rfl) ?_
    refine JO.nil ?_
    refine J.inBlock ?_
    refine J.region rfl ?_
    refine JO.pur rfl rfl rfl (Pur.move rfl) ?_
    refine JO.pur rfl rfl rfl (Pur.add rfl rfl (wr64 (by omega))) ?_
    refine JO.pur rfl rfl rfl (Pur.assign rfl) ?_
    refine JO.nil ?_
    exact J.weaken (.cons rfl rfl (.cons rfl (congrArg (Value.int .i64) (by first | rfl | (dsimp only; omega))) (.cons rfl rfl (.cons rfl rfl .nil)))) (fun h s => by dsimp only; rw [htk]; exact SubC.out h s) (ihq (q + 1, a25, c25) (by dsimp only; omega) (by dsimp only; omega))
  · try simp only [bSimp, bSimp2, ne_eq] at h15
    have hqe : q = 2 := by simp at h15; omega
    subst hqe
    rw [show (([a, b].take 2).map fun x => (x, false)) = [(a, false), (b, false)] from rfl]
    refine J.condF rfl rfl ?_
    refine J.exit rfl rfl ?_
    refine J.seq rfl ?_
    refine J.region rfl ?_
    refine JO.pur rfl rfl rfl (Pur.move rfl) ?_
    refine JO.pur rfl rfl rfl (Pur.move rfl) ?_
    refine JO.eff rfl rfl rfl (Eff.call rfl (rop_ok (a := a) (b := b) ho rfl)) ?_
    rintro _ _ ⟨bb, rfl, rfl⟩
    refine JO.pur rfl rfl rfl (Pur.move rfl) ?_
    refine JO.pur rfl rfl rfl (Pur.extract rfl rfl) ?_
    refine JO.pur rfl rfl rfl (Pur.extract rfl rfl) ?_
    refine JO.pur rfl rfl rfl (Pur.extract rfl rfl) ?_
    refine JO.eff rfl rfl rfl (Eff.alloc (cs := [_, _]) rfl) ?_
    rintro _ _ ⟨b9, rfl, rfl⟩
    refine JO.effN rfl rfl (Eff.storeBA (cs' := [_, _]) rfl rfl (by rfl) (by rfl) (by rfl)) ?_
    rintro _ _ ⟨rfl, rfl⟩
    refine JO.pur rfl rfl rfl (Pur.assign rfl) ?_
    refine JO.pur rfl rfl rfl (Pur.assign rfl) ?_
    refine JO.nil ?_
    refine J.seq rfl ?_
    refine J.block rfl ?_
    refine J.seq rfl ?_
    refine J.region rfl ?_
    refine JO.pur rfl rfl rfl (Pur.move rfl) ?_
    refine JO.pur rfl rfl rfl (Pur.not rfl) ?_
    refine JO.pur rfl rfl rfl (Pur.assign rfl) ?_
    refine JO.nil ?_
    refine J.setv (u' := .bool false) 33 rfl (congrArg Value.bool (rfl)) ?_
    refine J.condF rfl rfl ?_
    refine J.seq rfl ?_
    refine J.region rfl ?_
    refine JO.pur rfl rfl rfl (Pur.move rfl) ?_
    refine JO.pur rfl rfl rfl (Pur.not rfl) ?_
    refine JO.pur rfl rfl rfl (Pur.assign rfl) ?_
    refine JO.nil ?_
    refine J.setv (u' := .bool false) 36 rfl (congrArg Value.bool (rfl)) ?_
    refine J.condF rfl rfl ?_
    refine J.skip rfl ?_
    refine J.inBlock ?_
    refine J.seq rfl ?_
    refine J.region rfl ?_
    refine JO.pur rfl rfl rfl (Pur.fieldAddr rfl) ?_
    refine JO.pur rfl rfl rfl (Pur.load rfl (CellIn.blk rfl)) ?_
    refine JO.pur rfl rfl rfl (Pur.assign rfl) ?_
    refine JO.pur rfl rfl rfl (Pur.assign rfl) ?_
    refine JO.pur rfl rfl rfl (Pur.assign rfl) ?_
    refine JO.nil ?_
    refine J.ret rfl rfl ?_
    exact ⟨_, _, ⟨rfl, rfl⟩, rfl, fun h s => SubC.out h s⟩

end Go.Proofs.Ytoikjjpleonllaa

/- The text G9. -/
set_option linter.unusedVariables false
set_option linter.unusedSimpArgs false
set_option maxRecDepth 10000
namespace Go.Proofs.Ytoikjjpleonllaa
open Go Go.KK Gr

instance : IntT Try.prog 3 .i64 := ⟨Try.underlying3⟩
instance : IntT Try.prog 98 .u64 := ⟨Try.underlying98⟩
instance : IntT Try.prog 126 .u64 := ⟨Try.underlying126⟩
def cntV (t : ByteArray) (n : Int) : Int × Int :=
  if t ∈ kinds ∧ 1 ≤ n ∧ n ≤ 8 then
    (if t = ⟨#[99, 97, 115, 116]⟩ ∨ t = ⟨#[114, 101, 100, 117, 99, 101]⟩ then n - 1
     else if t = ⟨#[97, 108, 108]⟩ ∨ t = ⟨#[98, 97, 114, 114, 105, 101, 114]⟩ then 2 * (n - 1) else scm 4 n 1 0, 0)
  else (0, 2)
theorem rKind_ok {L : List Asn} {t : ByteArray} :
    CallS Try.prog 46 [.string t].toArray L (fun v M => v = .bool (decide (t ∈ kinds)) ∧ M = L) := by
  refine CallS.ent ?_
  refine CallS.enter Try.func46 rfl rfl rfl rfl rfl ?_
  refine J.seq rfl ?_
  refine J.region rfl ?_
  refine JO.pur rfl rfl rfl (Pur.assign rfl) ?_
  refine JO.nil ?_
  refine J.seq rfl ?_
  refine J.region rfl ?_
  refine JO.pur rfl rfl rfl (Pur.move rfl) ?_
  refine JO.pur rfl rfl rfl (Pur.eqlT rfl rfl) ?_
  refine JO.pur rfl rfl rfl (Pur.move rfl) ?_
  refine JO.splitB 5 rfl (fun h5 => ?_) (fun h5 => ?_)
  · try simp only [bSimp, bSimp2, ne_eq] at h5
    refine JO.no rfl rfl rfl ?_
    refine JO.no rfl rfl rfl ?_
    refine JO.pur rfl rfl rfl (Pur.pickT rfl rfl) ?_
    refine JO.pur rfl rfl rfl (Pur.move rfl) ?_
    refine JO.no rfl rfl rfl ?_
    refine JO.no rfl rfl rfl ?_
    refine JO.pur rfl rfl rfl (Pur.pickT rfl rfl) ?_
    refine JO.pur rfl rfl rfl (Pur.move rfl) ?_
    refine JO.no rfl rfl rfl ?_
    refine JO.no rfl rfl rfl ?_
    refine JO.pur rfl rfl rfl (Pur.pickT rfl rfl) ?_
    refine JO.pur rfl rfl rfl (Pur.move rfl) ?_
    refine JO.no rfl rfl rfl ?_
    refine JO.no rfl rfl rfl ?_
    refine JO.pur rfl rfl rfl (Pur.pickT rfl rfl) ?_
    refine JO.pur rfl rfl rfl (Pur.assign rfl) ?_
    refine JO.nil ?_
    refine J.ret rfl rfl ?_
    refine ⟨_, _, ⟨rfl, rfl⟩, congrArg Value.bool (by simp_all [kinds]), SubC.out⟩
  · try simp only [bSimp, bSimp2, ne_eq] at h5
    refine JO.pur rfl rfl rfl (Pur.move rfl) ?_
    refine JO.pur rfl rfl rfl (Pur.eqlT rfl rfl) ?_
    refine JO.pur rfl rfl rfl (Pur.pickF rfl rfl) ?_
    refine JO.pur rfl rfl rfl (Pur.move rfl) ?_
    refine JO.splitB 9 rfl (fun h9 => ?_) (fun h9 => ?_)
    · try simp only [bSimp, bSimp2, ne_eq] at h9
      refine JO.no rfl rfl rfl ?_
      refine JO.no rfl rfl rfl ?_
      refine JO.pur rfl rfl rfl (Pur.pickT rfl rfl) ?_
      refine JO.pur rfl rfl rfl (Pur.move rfl) ?_
      refine JO.no rfl rfl rfl ?_
      refine JO.no rfl rfl rfl ?_
      refine JO.pur rfl rfl rfl (Pur.pickT rfl rfl) ?_
      refine JO.pur rfl rfl rfl (Pur.move rfl) ?_
      refine JO.no rfl rfl rfl ?_
      refine JO.no rfl rfl rfl ?_
      refine JO.pur rfl rfl rfl (Pur.pickT rfl rfl) ?_
      refine JO.pur rfl rfl rfl (Pur.assign rfl) ?_
      refine JO.nil ?_
      refine J.ret rfl rfl ?_
      refine ⟨_, _, ⟨rfl, rfl⟩, congrArg Value.bool (by simp_all [kinds]), SubC.out⟩
    · try simp only [bSimp, bSimp2, ne_eq] at h9
      refine JO.pur rfl rfl rfl (Pur.move rfl) ?_
      refine JO.pur rfl rfl rfl (Pur.eqlT rfl rfl) ?_
      refine JO.pur rfl rfl rfl (Pur.pickF rfl rfl) ?_
      refine JO.pur rfl rfl rfl (Pur.move rfl) ?_
      refine JO.splitB 13 rfl (fun h13 => ?_) (fun h13 => ?_)
      · try simp only [bSimp, bSimp2, ne_eq] at h13
        refine JO.no rfl rfl rfl ?_
        refine JO.no rfl rfl rfl ?_
        refine JO.pur rfl rfl rfl (Pur.pickT rfl rfl) ?_
        refine JO.pur rfl rfl rfl (Pur.move rfl) ?_
        refine JO.no rfl rfl rfl ?_
        refine JO.no rfl rfl rfl ?_
        refine JO.pur rfl rfl rfl (Pur.pickT rfl rfl) ?_
        refine JO.pur rfl rfl rfl (Pur.assign rfl) ?_
        refine JO.nil ?_
        refine J.ret rfl rfl ?_
        refine ⟨_, _, ⟨rfl, rfl⟩, congrArg Value.bool (by simp_all [kinds]), SubC.out⟩
      · try simp only [bSimp, bSimp2, ne_eq] at h13
        refine JO.pur rfl rfl rfl (Pur.move rfl) ?_
        refine JO.pur rfl rfl rfl (Pur.eqlT rfl rfl) ?_
        refine JO.pur rfl rfl rfl (Pur.pickF rfl rfl) ?_
        refine JO.pur rfl rfl rfl (Pur.move rfl) ?_
        refine JO.splitB 17 rfl (fun h17 => ?_) (fun h17 => ?_)
        · try simp only [bSimp, bSimp2, ne_eq] at h17
          refine JO.no rfl rfl rfl ?_
          refine JO.no rfl rfl rfl ?_
          refine JO.pur rfl rfl rfl (Pur.pickT rfl rfl) ?_
          refine JO.pur rfl rfl rfl (Pur.assign rfl) ?_
          refine JO.nil ?_
          refine J.ret rfl rfl ?_
          refine ⟨_, _, ⟨rfl, rfl⟩, congrArg Value.bool (by simp_all [kinds]), SubC.out⟩
        · try simp only [bSimp, bSimp2, ne_eq] at h17
          refine JO.pur rfl rfl rfl (Pur.move rfl) ?_
          refine JO.pur rfl rfl rfl (Pur.eqlT rfl rfl) ?_
          refine JO.pur rfl rfl rfl (Pur.pickF rfl rfl) ?_
          refine JO.pur rfl rfl rfl (Pur.assign rfl) ?_
          refine JO.nil ?_
          refine J.ret rfl rfl ?_
          refine ⟨_, _, ⟨rfl, rfl⟩, congrArg Value.bool (by simp_all [kinds]), SubC.out⟩

end Go.Proofs.Ytoikjjpleonllaa
