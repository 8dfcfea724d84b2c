/-
  A part of the proof of the claim that this folder bears.
-/
import Derived.Test.YtoikjjpleonllaaPAM
/- The text RSim2. -/
set_option linter.unusedVariables false
set_option linter.unusedSimpArgs false
/-! The document's collective, from its beginning on, beside the program's one. -/
namespace Rg
open Go Go.KK Gr Go.Proofs.Ytoikjjpleonllaa
def newR0 (k o : ByteArray) (root : Int) (vs : List Int) : Rs := ⟨k, o0 k o, root, W0 k vs, List.replicate vs.length false, List.replicate vs.length [], List.replicate vs.length 0, List.replicate vs.length false, [], 0⟩
def begR (n root : Nat) (R : Rs) : Nat → Rs
  | 0 => R
  | k + 1 => if chP n root k = [] then combR (begR n root R k) k else begR n root R k
def begRS (R : Rs) : Nat → Rs
  | 0 => R
  | k + 1 => scanR 4 (begRS R k) k
def beginR (R : Rs) : Rs := if R.kind = sCast then castR R (rrt R) (rsum R (rrt R)) else if R.kind = sScan then begRS R R.sum.length else begR R.sum.length (rrt R) R R.sum.length
def newR (k o : ByteArray) (root : Int) (vs : List Int) : Rs := beginR (newR0 k o root vs)
def SimF (n : Nat) (g : Gs) (R : Rs) : Prop := Sim n g R ∧ (g.kind = sScan → ∀ p, p < n → rbeg R p = !(mem g p).has)
theorem getD_rep {α : Type} (n : Nat) (x : α) (p : Nat) (d : α) (h : p < n) : (List.replicate n x).getD p d = x := by
  rw [List.getD_eq_getElem?_getD, List.getElem?_replicate, if_pos h]; rfl
theorem sim0 {k o : ByteArray} {root : Int} {vs : List Int} (hg : goodN k o root vs) : Sim vs.length (g0 k o root vs) (newR0 k o root vs) := by
  obtain ⟨⟨g1, g2, ⟨g3, g4⟩, g5⟩, g6⟩ := id hg
  obtain ⟨a1, a2, a3, a4⟩ := g0_kind k o root vs
  obtain ⟨b1, b2⟩ := g0_ms k o root vs
  have hm := fun {p : Nat} (hp : p < vs.length) => mem_ms b1 (p := p) (by rw [W0_len]; exact hp)
  have hwl : (W0 k vs).length = vs.length := W0_len k vs
  refine ⟨g0_len _ _ _ _, ⟨g3, g4, hwl, by show (List.replicate _ _).length = _; rw [List.length_replicate], by show (List.replicate _ _).length = _; rw [List.length_replicate], by show (List.replicate _ _).length = _; rw [List.length_replicate], by show (List.replicate _ _).length = _; rw [List.length_replicate], fun r hr => ?_, fun m hm => by cases hm⟩,
    wf_g0 g3 g4, by rw [b2]; exact o0_ok (ok_ops g2), a1.symm, b2.symm, a2.symm, a4.symm, by rw [a3]; rfl, fun p hp => ?_, fun p hp => ?_, fun p hp => ?_, fun p hp c => ?_, fun p hp => ?_, fun p hp c s hs => ?_, fun m hx => by rw [a3] at hx; cases hx⟩
  · rw [List.eq_of_mem_replicate hr]; exact Nat.zero_le _
  · rw [hm hp]; exact getD_rep _ _ _ _ hp
  · rw [hm hp]; rfl
  · rw [hm hp]; exact getD_rep _ _ _ _ hp
  · rw [hm hp]
    have : rgot (newR0 k o root vs) p = [] := getD_rep _ _ _ _ hp
    rw [this]; rfl
  · rw [hm hp, a1, b2]
    intro h1 h2
    show (W0 k vs).getD p 0 = 0 ∨ (W0 k vs).getD p 0 = 1
    have hb : ¬ k = sBar := fun e => by
      unfold o0 at h1; rw [if_pos e] at h1
      rcases h1 with h1 | h1 <;> exact absurd h1 (by decide)
    have hw : W0 k vs = vs := if_neg hb
    have ho : o0 k o = o := if_neg hb
    rw [ho] at h1
    rw [hw]
    have hn : needN k := by
      simp only [kinds, List.mem_cons, List.not_mem_nil, or_false] at g1
      rcases g1 with h | h | h | h | h
      · exact absurd h h2
      · exact .inl h
      · exact .inr (.inl h)
      · exact absurd h hb
      · exact .inr (.inr h)
    refine Classical.byContradiction fun e => g6 ⟨hn, h1, vs.getD p 0, by rw [List.getD_eq_getElem?_getD, List.getElem?_eq_getElem hp]; exact List.getElem_mem hp, ?_⟩
    unfold isNB; omega
  · rw [hm hp] at hs; cases hs
theorem comb_mem {g : Gs} {p : Nat} (hp : p < g.ms.length) {q : Nat} (h : q ≠ p) : mem (combG g p) q = mem g q := by
  unfold combG
  split
  · rfl
  · split
    · rw [mem_setM hp, if_neg h]
    · unfold castG; rw [mem_pk, mem_setM hp, if_neg h]
theorem comb_got {g : Gs} {p : Nat} (hp : p < g.ms.length) : (mem (combG g p) p).got = (mem g p).got := by
  unfold combG
  split
  · rfl
  · split
    · rw [mem_setM hp, if_pos rfl]
    · unfold castG; rw [mem_pk, mem_setM hp, if_pos rfl]
section
variable {n : Nat} {g : Gs} {R : Rs}
theorem Sim.begT (h : Sim n g R) (hk : ¬ g.kind = sScan) (hc : ¬ g.kind = sCast) (hh : ∀ p, p < n → (mem g p).has = false) : ∀ k, k ≤ n → Sim n (begT g k) (begR n (rrt R) R k) ∧ ∀ q, k ≤ q → q < n → (mem (begT g k) q).has = false
  | 0, _ => ⟨h, fun q _ hq => hh q hq⟩
  | k + 1, hkn => by
    obtain ⟨i1, i2⟩ := Sim.begT h hk hc hh k (by omega)
    have hs := (begT_keep h.wg k (by rw [h.gn]; omega)).2.1
    have e : chG (Gr.begT g k) k = chP n (rrt R) k := by
      unfold chG
      rw [i1.gn, h.rt]; unfold Gr.rt; rw [hs.2.2.1]
    unfold Gr.begT begR
    rw [e]
    by_cases e2 : chP n (rrt R) k = []
    · rw [if_pos e2, if_pos e2]
      refine ⟨i1.comb (by rw [hs.2.1]; exact hk) (by rw [hs.2.1]; exact hc) (by omega) (i2 k (Nat.le_refl _) (by omega)) (fun c hx => by rw [e, e2] at hx; cases hx), fun q hq hqn => ?_⟩
      rw [comb_mem (by rw [i1.gn]; omega) (by omega)]
      exact i2 q (by omega) hqn
    · rw [if_neg e2, if_neg e2]
      exact ⟨i1, fun q hq hqn => i2 q (by omega) hqn⟩
theorem Sim.begS (h : Sim n g R) (hk : g.kind = sScan) (hh : ∀ p, p < n → (mem g p).has = false ∧ rbeg R p = false) : ∀ k, k ≤ n → Sim n (begS g k) (begRS R k) ∧ (Gr.begS g k).kind = sScan ∧ (∀ q, q < k → rbeg (begRS R k) q = !(mem (Gr.begS g k) q).has) ∧ ∀ q, k ≤ q → q < n → (mem (Gr.begS g k) q).has = false ∧ rbeg (begRS R k) q = false
  | 0, _ => ⟨h, hk, fun q hq => absurd hq (Nat.not_lt_zero _), fun q _ hq => hh q hq⟩
  | k + 1, hkn => by
    obtain ⟨i1, i0, i2, i3⟩ := Sim.begS h hk hh k (by omega)
    obtain ⟨j1, j2⟩ := i3 k (Nat.le_refl _) (by omega)
    have h1 := i1.start i0 (by omega) j1 j2
    have hsm : ∀ q, mem (send (Gr.begS g k) k) q = mem (Gr.begS g k) q := fun q => by unfold mem; rw [send_ms]
    obtain ⟨m1, m2, m3⟩ := Sim.scan 4 (g := send (Gr.begS g k) k) (R := begRS R k) (p := k) i1.w ((send_op _ _).2.1.trans i0) (by omega) (by rw [hsm]; exact j1) (by rw [hsm]; exact i1.rnd k (by omega)) (fun _ => j2) (by rw [hsm]; exact h1) (by omega)
    have hkeep := scan_keep 4 (g := send (Gr.begS g k) k) (p := k) (wf_send i1.wg (by rw [i1.gn]; omega)) (by rw [send_len, i1.gn]; omega)
    refine ⟨m1, hkeep.2.2.2.2.1.trans ((send_op _ _).2.1.trans i0), fun q hq => ?_, fun q hq hqn => ?_⟩
    · by_cases e : q = k
      · rw [e]; exact m2
      · obtain ⟨x1, x2⟩ := m3 q e
        show rbeg (scanR 4 (begRS R k) k) q = !(mem (Gr.scan 4 (send (Gr.begS g k) k) k) q).has
        rw [x1, x2, hsm]; exact i2 q (by omega)
    · obtain ⟨x1, x2⟩ := m3 q (by omega)
      show (mem (Gr.scan 4 (send (Gr.begS g k) k) k) q).has = false ∧ rbeg (scanR 4 (begRS R k) k) q = false
      rw [x1, x2, hsm]; exact i3 q (by omega) hqn
theorem msgR_is (h : Sim n g R) {k : Nat} (hk : k < g.fly.length) : msgR R k = toR g.kind (msg g k) := by
  unfold msgR
  rw [h.fly, List.getD_eq_getElem?_getD, List.getElem?_map, msg_get hk]; rfl
end
theorem sim_new {k o : ByteArray} {root : Int} {vs : List Int} (hg : goodN k o root vs) : SimF vs.length (newG k o root vs) (newR k o root vs) := by
  have h0 := sim0 hg
  obtain ⟨⟨g1, g2, ⟨g3, g4⟩, g5⟩, g6⟩ := id hg
  obtain ⟨a1, a2, a3, a4⟩ := g0_kind k o root vs
  obtain ⟨b1, b2⟩ := g0_ms k o root vs
  have hm := fun {p : Nat} (hp : p < vs.length) => mem_ms b1 (p := p) (by rw [W0_len]; exact hp)
  have hl : (newR0 k o root vs).sum.length = vs.length := W0_len k vs
  have hgl := g0_len k o root vs
  unfold newG newR beginG beginR
  rw [hl, hgl, a1]
  show SimF vs.length _ (if k = sCast then _ else _)
  by_cases e : k = sCast
  · rw [if_pos e, if_pos e]
    have hr := g5 (by rw [e]; decide)
    have hrt : rt (g0 k o root vs) = root.toNat := by unfold rt; rw [a2]
    have hrR := h0.rt
    have hrn : root.toNat < vs.length := by omega
    have hs : rsum (newR0 k o root vs) root.toNat = (mem (g0 k o root vs) root.toNat).v := by rw [h0.sum _ hrn, hm hrn]; rfl
    rw [hrR, hrt, hs]
    have hkn : ¬ (g0 k o root vs).kind = sScan := by rw [a1, e]; decide
    refine ⟨h0.cast hkn hrn (h0.v01 _ hrn), fun e2 => ?_⟩
    have hsm := sm_cast (g0 k o root vs) root.toNat (mem (g0 k o root vs) root.toNat).v
    rw [hsm.2.1] at e2; exact absurd e2 hkn
  · rw [if_neg e, if_neg e]
    by_cases e2 : k = sScan
    · rw [if_pos e2]
      show SimF vs.length _ (if k = sScan then _ else _)
      rw [if_pos e2]
      obtain ⟨h1, h2, h3, h4⟩ := h0.begS (a1.trans e2) (fun p hp => ⟨by rw [hm hp], getD_rep _ _ _ _ hp⟩) vs.length (Nat.le_refl _)
      exact ⟨h1, fun _ => h3⟩
    · rw [if_neg e2]
      show SimF vs.length _ (if k = sScan then _ else _)
      rw [if_neg e2]
      obtain ⟨h1, h2⟩ := h0.begT (by rw [a1]; exact e2) (by rw [a1]; exact e) (fun p hp => by rw [hm hp]) vs.length (Nat.le_refl _)
      refine ⟨h1, fun e3 => ?_⟩
      have hs := (begT_keep h0.wg vs.length (by rw [h0.gn]; exact Nat.le_refl _)).2.1
      rw [hs.2.1, a1] at e3; exact absurd e3 e2
theorem sim_scan {n : Nat} {o : ByteArray} {vs : Nat → Int} {t : Nat} {D : Id2 → Bool} {g : Gs} {R : Rs} (h : SJ n o vs t D (fun _ => 2) g) (s : SimF n g R) {k : Nat} (hk : k < g.fly.length) : SimF n (dlvG g k) (dlvR R k) := by
  obtain ⟨⟨q, r⟩, ⟨h1, h2⟩, h3⟩ := h.fly.get (List.mem_of_getElem? (msg_get hk))
  obtain ⟨S, sb⟩ := s
  have hkd := h.hkd
  have sb := sb hkd
  obtain ⟨hq, -, hrq, hqr⟩ := id h1
  dsimp only at hq hrq hqr
  obtain ⟨p, hpe⟩ : ∃ p, p = q + 2 ^ r := ⟨_, rfl⟩
  have hp : p < n := by omega
  have hqe : q = p - 2 ^ r := by omega
  have hle : 2 ^ r ≤ p := by omega
  have hmR := msgR_is S hk
  have hto : (msg g k).to = p := by rw [h3, hpe]; rfl
  have hrd : (msg g k).rd = r := by rw [h3]; rfl
  have hD : ¬ D (p - 2 ^ r, r) = true := by rw [← hqe]; exact h2
  obtain ⟨hrn, hhas⟩ : 2 ^ (mem g p).r < n ∧ (mem g p).has = false := by
    rcases h.fin p hp rfl with ⟨a, -, -⟩ | ⟨a, -, -, b⟩
    · exfalso
      have hrp : r < (mem g p).r := Classical.byContradiction fun e => by
        have := Nat.pow_le_pow_right (show 0 < 2 by decide) (Nat.le_of_not_lt e)
        omega
      exact hD ((h.rd p hp r hrp).2 hle)
    · exact ⟨a, b⟩
  have hlk : lookI (mem g p).got (r : Int) = none := by rw [h.got p hp r, if_neg (fun e => hD e.2)]
  obtain ⟨M1, hM1⟩ : ∃ m : Mm, m = { mem (takeM g k) p with got := setI (mem (takeM g k) p).got (r : Int) (msg g k).v } := ⟨_, rfl⟩
  have hd : dlvG g k = Gr.scan 4 (setM (takeM g k) p M1) p := by
    unfold dlvG; rw [if_pos hkd]; unfold dlvS gotM; rw [hto, hrd, hM1]; rfl
  have hct : (msgR R k).ct = false := by rw [hmR]; unfold toR; rw [decide_eq_true hkd]; simp
  have htoR : (msgR R k).to = p := by rw [hmR]; exact hto
  have hdR : dlvR R k = scanR 4 (setGot (takeR R k) p (rgot (takeR R k) p ++ [toR g.kind (msg g k)])) p := by
    unfold dlvR; rw [if_neg (by rw [hct]; decide), if_pos (S.kd.trans hkd), htoR, hmR]; rfl
  rw [hd, hdR]
  have T := S.take k
  have hb := S.f01 _ (List.mem_of_getElem? (msg_get hk))
  have G := T.gets hp (m := msg g k) (y := r) (by unfold keyR; rw [show (takeM g k).kind = sScan from hkd, if_pos rfl]; exact hrd) hb hlk
  rw [← hM1] at G
  have G : Sim n (setM (takeM g k) p M1) (setGot (takeR R k) p (rgot (takeR R k) p ++ [toR g.kind (msg g k)])) := G
  have hlp : p < (takeM g k).ms.length := by rw [T.gn]; exact hp
  have hX := fun q => mem_setM (m := M1) hlp q
  have hbg : rbeg (setGot (takeR R k) p (rgot (takeR R k) p ++ [toR g.kind (msg g k)])) p = true := by
    show rbeg R p = true
    rw [sb p hp, hhas]; rfl
  have hst : startR (setGot (takeR R k) p (rgot (takeR R k) p ++ [toR g.kind (msg g k)])) p = setGot (takeR R k) p (rgot (takeR R k) p ++ [toR g.kind (msg g k)]) := by unfold startR; rw [if_pos hbg]
  have hrX : (mem (setM (takeM g k) p M1) p).r = (mem g p).r := by rw [hX, if_pos rfl, hM1]; rfl
  obtain ⟨m1, m2, m3⟩ := Sim.scan 4 (g := setM (takeM g k) p M1) G.w hkd hp (by rw [hX, if_pos rfl, hM1]; exact hhas) (G.rnd p hp) (fun e => absurd (by rw [hrX]; exact hrn) e) (by rw [hrX, if_pos hrn, hst]; exact G) (by omega)
  refine ⟨m1, fun _ x hx => ?_⟩
  by_cases e : x = p
  · rw [e]; exact m2
  · obtain ⟨x1, x2⟩ := m3 x e
    rw [x1, x2, hX, if_neg e]
    exact sb x hx
theorem sim_tree {n root : Nat} {kd o : ByteArray} {vs : Nat → Int} {t : Nat} {D : Gr.Id → Bool} {g : Gs} {R : Rs} (hns : ¬ kd = sScan) (h : TI n root kd o vs t D g) (s : SimF n g R) {k : Nat} (hk : k < g.fly.length) : SimF n (dlvG g k) (dlvR R k) := by
  obtain ⟨⟨c, b⟩, ⟨h1, h2⟩, h3⟩ := h.fly.get (List.mem_of_getElem? (msg_get hk))
  obtain ⟨S, -⟩ := s
  have hkd : ¬ g.kind = sScan := by rw [h.hkd]; exact hns
  have hmR := msgR_is S hk
  have T := S.take k
  have hb := S.f01 _ (List.mem_of_getElem? (msg_get hk))
  have hcn : c < n := by cases b <;> exact h1.2.1
  have hd : dlvG g k = dlvT g k := if_neg hkd
  have hlast : (dlvT g k).kind = g.kind → ∀ X, Sim n (dlvT g k) X → SimF n (dlvT g k) X := fun e X hX => ⟨hX, fun e2 => absurd (e.symm.trans e2) hkd⟩
  have hk2 : g.fly[k]? = some (mOf n root kd o vs (c, b)) := by rw [← h3]; exact msg_get hk
  rw [hd]
  cases b
  · have T2 := h.dn hk2 h1 h2
    refine hlast (T2.hkd.trans h.hkd.symm) _ ?_
    have hct : (msgR R k).ct = true := by rw [hmR, h3]; unfold toR mOf; rw [decide_eq_false hkd]; rfl
    unfold dlvT dlvR
    rw [if_pos hct, if_neg (show ¬ (msg g k).up = true by rw [h3]; exact Bool.false_ne_true), hmR]
    exact T.cast hkd (by rw [h3]; exact hcn) hb
  · have T2 := h.up hk2 h1 h2
    refine hlast (T2.hkd.trans h.hkd.symm) _ ?_
    obtain ⟨hnc, hc, hcr, hcc⟩ := id h1
    have hct : (msgR R k).ct = false := by rw [hmR, h3]; unfold toR mOf; rfl
    obtain ⟨p, hpe⟩ : ∃ p, p = parP n root c := ⟨_, rfl⟩
    have hn := h.hn
    have hr := h.hr
    have hp : p < n := by rw [hpe]; exact par_lt (by omega)
    have hcp : c ∈ chP n root p := (ch_par n hn root hr p hp c hc).2 ⟨hcr, hpe.symm⟩
    have hto : (msg g k).to = p := by rw [h3, hpe]; rfl
    have hfr : (msg g k).fr = c := by rw [h3]; rfl
    have hup : (msg g k).up = true := by rw [h3]; rfl
    have htoR : (msgR R k).to = p := by rw [hmR]; exact hto
    have hlk : lookI (mem g p).got (c : Int) = none := by rw [h.got p hp c hc, if_neg (fun e => h2 e.2)]
    have hnh : (mem g p).has = false := by
      cases e : (mem g p).has with
      | false => rfl
      | true =>
        have hH := (h.has p hp).1 e
        have hcm := h.rootC hnc _ p hp (Nat.le_refl _) hH
        exact absurd (h.allU hcm _ c hc hcr (Nat.le_refl _)) h2
    have hX0 : upG g k = setM (takeM g k) p { mem (takeM g k) p with got := setI (mem (takeM g k) p).got (c : Int) (msg g k).v } := by unfold upG gotU; rw [hto, hfr]; rfl
    have G := T.gets hp (m := msg g k) (y := c) (by unfold keyR; rw [if_neg (show ¬ (takeM g k).kind = sScan from hkd)]; exact hfr) hb hlk
    rw [← hX0] at G
    have G : Sim n (upG g k) (setGot (takeR R k) p (rgot (takeR R k) p ++ [toR g.kind (msg g k)])) := G
    have hlp : p < (takeM g k).ms.length := by rw [T.gn]; exact hp
    have hmX : mem (upG g k) p = gotU g (msg g k) := by rw [hX0, mem_setM hlp, if_pos rfl]; unfold gotU; rw [hto, hfr]; rfl
    have hlu : p < (upG g k).ms.length := by rw [G.gn]; exact hp
    have hku : (upG g k).kind = g.kind := rfl
    have hdR : dlvR R k = combR (setGot (takeR R k) p (rgot (takeR R k) p ++ [toR g.kind (msg g k)])) p := by
      unfold dlvR; rw [if_neg (by rw [hct]; decide), if_neg (by rw [S.kd]; exact hkd), htoR, hmR]; rfl
    have hdT : dlvT g k = if (gotU g (msg g k)).got.length = (chG g p).length then combG (upG g k) p else upG g k := by unfold dlvT; rw [if_pos hup, hto]
    have hchn : chG g p = chP n root p := h.tb.ch p
    have hchu : chG (upG g k) p = chP n root p := by unfold chG; rw [G.gn]; show chP n (Gr.rt g) p = _; rw [h.tb.rt]
    have hgg : (mem (dlvT g k) p).got = (gotU g (msg g k)).got := by
      rw [hdT]; split
      · rw [comb_got hlu, hmX]
      · rw [hmX]
    have hgl := T2.gl p hp
    have hgt := T2.got p hp
    rw [hgg] at hgl hgt
    rw [hdT, hdR]
    by_cases e : (gotU g (msg g k)).got.length = (chG g p).length
    · rw [if_pos e]
      rw [hchn, hgl, List.length_filter_eq_length_iff] at e
      refine G.comb hkd (by rw [show (upG g k).kind = kd from h.hkd]; exact hnc) hp (by rw [hmX]; unfold gotU; rw [hto]; exact hnh) fun x hx => ?_
      rw [hchu] at hx
      exact ⟨_, by rw [hmX, hgt x (ch_lt hx (by omega)), if_pos ⟨hx, e x hx⟩]⟩
    · rw [if_neg e]
      rw [hchn, hgl, List.length_filter_eq_length_iff] at e
      have e2 : ∃ x ∈ chP n root p, ¬ onD D (c, true) (x, true) = true := Classical.byContradiction fun e3 => e fun x hx => Classical.byContradiction fun e4 => e3 ⟨x, hx, e4⟩
      obtain ⟨x, hx, hxn⟩ := e2
      rw [G.combN hkd hp ⟨x, by rw [hchu]; exact hx, by rw [hmX, hgt x (ch_lt hx (by omega)), if_neg (fun e => hxn e.2)]⟩]
      exact G
theorem sim_dlv {k o : ByteArray} {root : Int} {vs : List Int} {t : Nat} {g : Gs} {R : Rs} (h : GF k o root vs t g) (s : SimF vs.length g R) {q : Nat} (hq : q < g.fly.length) : SimF vs.length (dlvG g q) (dlvR R q) := by
  unfold GF at h
  split at h
  · obtain ⟨⟨D, hT, ht⟩, hf⟩ := h
    exact sim_scan hT s hq
  · rename_i hk
    obtain ⟨D, hT, ht⟩ := h
    exact sim_tree hk hT s hq
def resR (R : Rs) (q : Int) : Int × Int := if q < 0 ∨ (R.sum.length : Int) ≤ q ∨ (R.kind = sRed ∧ q ≠ R.root) then (0, 2) else if rhas R q.toNat = true then (rsum R q.toNat, 0) else (0, 171)
theorem SimF.res {n : Nat} {g : Gs} {R : Rs} (s : SimF n g R) (q : Int) : resV g q = resR R q := by
  obtain ⟨h, -⟩ := s
  unfold resV resR
  rw [h.gn, h.w.ls, h.kd, h.root]
  by_cases e : q < 0 ∨ (n : Int) ≤ q ∨ (g.kind = sRed ∧ q ≠ g.root)
  · rw [if_pos e, if_pos e]
  · rw [if_neg e, if_neg e]
    have hq : q.toNat < n := by omega
    rw [h.has _ hq, h.sum _ hq]
    by_cases e2 : (mem g q.toNat).has = true
    · rw [if_pos e2, if_pos e2, if_pos e2]
    · rw [if_neg e2, if_neg e2]
end Rg
