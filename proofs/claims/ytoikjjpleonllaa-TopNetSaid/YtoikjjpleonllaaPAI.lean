/-
  A part of the proof of the claim that this folder bears.
-/
import Derived.Test.YtoikjjpleonllaaPAH
import Derived.Test.YtoikjjpleonllaaPAD
import Derived.Test.YtoikjjpleonllaaKC
/- The text GTI5. -/
set_option linter.unusedVariables false
set_option linter.unusedSimpArgs false
namespace Gr
open Go Go.KK
section
variable {n root : Nat} {kd o : ByteArray} {vs : Nat → Int} {t : Nat} {D : Id → Bool} {g : Gs}
/-- A collective at its very beginning. -/
structure Raw (n root : Nat) (kd o : ByteArray) (vs : Nat → Int) (g : Gs) : Prop where
  tb : TB n root kd o vs D0 g
  has : ∀ p, p < n → (mem g p).has = false
  fly : g.fly = []
  sent : g.sent = 0
theorem D0n (i : Id) : ¬ D0 i = true := fun e => by unfold D0 at e; cases e
theorem comb0 {p : Nat} : comb n root D0 p ↔ chP n root p = [] := by
  constructor
  · intro h
    cases e : chP n root p with
    | nil => rfl
    | cons c l => have := h c (by rw [e]; exact List.mem_cons_self ..); cases this
  · intro h c hc; rw [h] at hc; cases hc
theorem wr0 : wr 0 = 0 := by decide
theorem Raw.cast (h : Raw n root kd o vs g) (hk : kd = sCast) : TI n root kd o vs 0 D0 (castG g root (tot n root kd o vs)) := by
  have hn := h.tb.hn
  have hr := h.tb.hr
  have hT := h.tb
  have hnr : ¬ kd = sRed := by rw [hk]; decide
  have hHs : ∀ q, Hs n root kd D0 q ↔ q = root := fun q => by
    by_cases e : q = root
    · subst e; rw [Hs_root]; exact ⟨fun _ => rfl, fun _ => .inl hk⟩
    · rw [Hs_ne e]; exact ⟨fun g => (by cases g), fun g => absurd g e⟩
  have hfl := hT.cast_fly hr
  have hb := FlyIs.addL (mOf_inj n root kd o vs) (T := fun _ => False) (fly := []) (FlyIs.nil fun _ => id) (ns_nodup (ch_nodup n hn root hr root hr)) (fun _ _ => id)
  refine (hT.cast hr _).ti ⟨fun p hp => ?_, fun p hp hh => ?_, ?_, fun i hi => (by cases hi), ?_, ?_⟩
  · rw [hT.cast_mem hr, hHs]
    split
    · rename_i e; exact ⟨fun _ => e, fun _ => rfl⟩
    · rename_i e; rw [h.has p hp]; exact ⟨fun g => (by cases g), fun g => absurd g e⟩
  · rw [hT.cast_mem hr, if_pos ((hHs p).1 hh)]
  · rw [hfl, h.fly]
    refine hb.congr ?_
    rintro ⟨q, b⟩
    rw [ns_mem]
    cases b
    · show ((¬ kd = sRed ∧ q < n ∧ q ≠ root ∧ Hs n root kd D0 (parP n root q)) ∧ ¬ D0 _ = true) ↔ False ∨ _
      rw [hHs]
      constructor
      · rintro ⟨⟨_, a2, a3, a4⟩, _⟩; exact .inr ⟨rfl, (ch_par n hn root hr root hr q a2).2 ⟨a3, a4⟩⟩
      · rintro (g | ⟨_, a⟩)
        · cases g
        · have hqn := ch_lt a (by omega)
          have := (ch_par n hn root hr root hr q hqn).1 a
          exact ⟨⟨hnr, hqn, this.1, this.2⟩, D0n _⟩
    · exact ⟨fun g => absurd hk g.1.1, fun g => g.elim (fun g => g.elim) (fun g => by cases g.1)⟩
  · rw [hT.cast_sent (tot n root kd o vs) 0 (by rw [h.sent, wr0]), hfl, h.fly]
    simp
  · rw [hfl, h.fly, List.nil_append, List.length_map, List.length_map]
    have := chP_len n root root
    omega
/-- Behind the beginning of some members. -/
structure BI (n root : Nat) (kd o : ByteArray) (vs : Nat → Int) (k : Nat) (g : Gs) : Prop where
  tb : TB n root kd o vs D0 g
  has : ∀ p, p < n → ((mem g p).has = true ↔ p = root ∧ root < k ∧ chP n root root = [])
  res : ∀ p, p < n → (mem g p).has = true → (mem g p).res = tot n root kd o vs
  fly : FlyIs (mOf n root kd o vs) (fun i => i.2 = true ∧ i.1 < k ∧ i.1 ≠ root ∧ chP n root i.1 = []) g.fly
  sent : g.sent = wr ((g.fly.length : Nat) : Int)
  few : g.fly.length ≤ k
theorem BI.next (hk : ¬ kd = sCast) {k : Nat} (hkn : k < n) (h : BI n root kd o vs k g) : BI n root kd o vs (k + 1) (if chG g k = [] then combG g k else g) := by
  have hT := h.tb
  have hn := hT.hn
  have hr := hT.hr
  by_cases hc : chP n root k = []
  · rw [if_pos (by rw [hT.ch]; exact hc)]
    have hacc := hT.acc hkn (comb0.2 hc)
    by_cases hkr : k = root
    · have hcr : chP n root root = [] := by have e := hc; rw [hkr] at e; exact e
      have htot : sub n root o vs k = tot n root kd o vs := by unfold tot; rw [if_neg hk, hkr]
      have hlk : k < g.ms.length := by rw [hT.len]; exact hkn
      have hfl2 : FlyIs (mOf n root kd o vs) (fun i => i.2 = true ∧ i.1 < k + 1 ∧ i.1 ≠ root ∧ chP n root i.1 = []) g.fly := h.fly.congr fun i => ⟨fun ⟨a1, a2, a3, a4⟩ => ⟨a1, by omega, a3, a4⟩, fun ⟨a1, a2, a3, a4⟩ => ⟨a1, by omega, a3, a4⟩⟩
      by_cases hred : kd = sRed
      · have hcg : combG g k = setM g k { mem g k with res := tot n root kd o vs, has := true } := by
          unfold combG; rw [if_neg (not_not_intro (hkr.trans hT.rt.symm)), if_pos (hT.hkd.trans hred), hacc, htot]
        rw [hcg]
        refine ⟨hT.set hkn _, fun p hp => ?_, fun p hp hh => ?_, hfl2, h.sent, Nat.le_succ_of_le h.few⟩
        · rw [mem_setM hlk]; split
          · rename_i e; exact ⟨fun _ => ⟨e.trans hkr, by omega, hcr⟩, fun _ => rfl⟩
          · rename_i e; rw [h.has p hp]; exact ⟨fun ⟨a, b, c⟩ => ⟨a, by omega, c⟩, fun ⟨a, _, _⟩ => absurd (a.trans hkr.symm) e⟩
        · rw [mem_setM hlk] at hh ⊢
          split
          · rfl
          · rename_i e; rw [if_neg e] at hh; exact h.res p hp hh
      · have hcg : combG g k = castG g k (tot n root kd o vs) := by
          unfold combG; rw [if_neg (not_not_intro (hkr.trans hT.rt.symm)), if_neg (by rw [hT.hkd]; exact hred), hacc, htot]
        have hfl : (castG g k (tot n root kd o vs)).fly = g.fly := by rw [hT.cast_fly hkn, hc]; simp
        rw [hcg]
        refine ⟨hT.cast hkn _, fun p hp => ?_, fun p hp hh => ?_, by rw [hfl]; exact hfl2, by rw [hT.cast_sent _ _ h.sent, hfl, hc]; simp, by rw [hfl]; exact Nat.le_succ_of_le h.few⟩
        · rw [hT.cast_mem hkn]; split
          · rename_i e; exact ⟨fun _ => ⟨e.trans hkr, by omega, hcr⟩, fun _ => rfl⟩
          · rename_i e; rw [h.has p hp]; exact ⟨fun ⟨a, b, c⟩ => ⟨a, by omega, c⟩, fun ⟨a, _, _⟩ => absurd (a.trans hkr.symm) e⟩
        · rw [hT.cast_mem hkn] at hh ⊢
          split
          · rfl
          · rename_i e; rw [if_neg e] at hh; exact h.res p hp hh
    · have hcg : combG g k = put g (mOf n root kd o vs (k, true)) := by
        unfold combG; rw [if_pos (by rw [hT.rt]; exact hkr), hacc, hT.len, hT.rt]; rfl
      rw [hcg]
      have h1 := h.fly.add (mOf_inj n root kd o vs) (i := (k, true)) (fun g => Nat.lt_irrefl _ g.2.1)
      refine ⟨hT.put ⟨par_lt (by omega), hkn, Nat.zero_le _⟩, fun p hp => ?_, h.res, h1.congr fun i => ?_, ?_, ?_⟩
      · show (mem g p).has = true ↔ _
        rw [h.has p hp]
        exact ⟨fun ⟨a, b, c⟩ => ⟨a, by omega, c⟩, fun ⟨a, b, c⟩ => ⟨a, by omega, c⟩⟩
      · obtain ⟨q, b⟩ := i
        constructor
        · rintro ⟨a1, a2, a3, a4⟩
          by_cases e : q = k
          · right; rw [e, show b = true from a1]
          · left; exact ⟨a1, (by have : q < k + 1 := a2; show q < k; omega), a3, a4⟩
        · rintro (⟨a1, a2, a3, a4⟩ | e)
          · exact ⟨a1, (by have : q < k := a2; show q < k + 1; omega), a3, a4⟩
          · injection e with e1 e2; subst e1; subst e2; exact ⟨rfl, Nat.lt_succ_self _, hkr, hc⟩
      · show wr (g.sent + 1) = wr (((g.fly ++ [_]).length : Nat) : Int)
        rw [h.sent, wr_add, List.length_append]; simp
      · show (g.fly ++ [_]).length ≤ _
        have := h.few
        rw [List.length_append]; simp; omega
  · rw [if_neg (by rw [hT.ch]; exact hc)]
    refine ⟨hT, fun p hp => ?_, h.res, h.fly.congr fun i => ?_, h.sent, Nat.le_succ_of_le h.few⟩
    · rw [h.has p hp]
      constructor
      · rintro ⟨a, b, c⟩; exact ⟨a, by omega, c⟩
      · rintro ⟨a, b, c⟩
        have : root ≠ k := fun e => hc (e ▸ c)
        exact ⟨a, by omega, c⟩
    · constructor
      · rintro ⟨a1, a2, a3, a4⟩
        have : i.1 ≠ k := fun e => hc (e ▸ a4)
        exact ⟨a1, by omega, a3, a4⟩
      · rintro ⟨a1, a2, a3, a4⟩; exact ⟨a1, by omega, a3, a4⟩
theorem Raw.bi (h : Raw n root kd o vs g) (hk : ¬ kd = sCast) : ∀ k, k ≤ n → BI n root kd o vs k (begT g k)
  | 0, _ => ⟨h.tb, fun p hp => by show (mem g p).has = true ↔ _; rw [h.has p hp]; exact ⟨fun g => (by cases g), fun g => absurd g.2.1 (Nat.not_lt_zero _)⟩, fun p hp hh => (by have : (mem g p).has = true := hh; rw [h.has p hp] at this; cases this),
      by show FlyIs _ _ g.fly; rw [h.fly]; exact FlyIs.nil fun i g => Nat.not_lt_zero _ g.2.1, by show g.sent = wr ((g.fly.length : Nat) : Int); rw [h.sent, h.fly]; exact wr0.symm, by show g.fly.length ≤ 0; rw [h.fly]; exact Nat.le_refl _⟩
  | k + 1, hkn => BI.next hk hkn (Raw.bi h hk k (by omega))
theorem BI.ti (hk : ¬ kd = sCast) (h : BI n root kd o vs n g) : TI n root kd o vs 0 D0 g := by
  have hT := h.tb
  have hn := hT.hn
  have hr := hT.hr
  have hHs : ∀ q, Hs n root kd D0 q ↔ q = root ∧ root < n ∧ chP n root root = [] := fun q => by
    by_cases e : q = root
    · subst e; rw [Hs_root, comb0]; exact ⟨fun g => ⟨rfl, hr, g.resolve_left hk⟩, fun g => .inr g.2.2⟩
    · rw [Hs_ne e]; exact ⟨fun g => (by cases g), fun g => absurd g.1 e⟩
  refine hT.ti ⟨fun p hp => by rw [hHs]; exact h.has p hp, fun p hp hh => h.res p hp ((h.has p hp).2 ((hHs p).1 hh)), h.fly.congr ?_, fun i hi => (by cases hi), by rw [h.sent]; simp, by have := h.few; omega⟩
  rintro ⟨q, b⟩
  cases b
  · constructor
    · rintro ⟨⟨_, a2, a3, a4⟩, _⟩
      obtain ⟨b1, _, b3⟩ := (hHs _).1 a4
      have := (ch_par n hn root hr root hr q a2).2 ⟨a3, b1⟩
      rw [b3] at this; cases this
    · rintro ⟨a, _⟩; cases a
  · constructor
    · rintro ⟨⟨_, a2, a3, a4⟩, _⟩; exact ⟨rfl, a2, a3, comb0.1 a4⟩
    · rintro ⟨_, a2, a3, a4⟩; exact ⟨⟨hk, a2, a3, comb0.2 a4⟩, D0n _⟩
theorem Raw.good (h : Raw n root kd o vs g) (hs : ¬ kd = sScan) : Gd n root kd o vs 0 (beginG g) := by
  have hz : 0 = ((ids n root kd).filter D0).length := by rw [List.filter_eq_nil_iff.2 (fun a _ => D0n a)]; rfl
  unfold beginG
  by_cases hk : kd = sCast
  · rw [if_pos (h.tb.hkd.trans hk), h.tb.rt, h.tb.val root h.tb.hr]
    have : vs root = tot n root kd o vs := by unfold tot; rw [if_pos hk]
    rw [this]
    exact ⟨D0, h.cast hk, hz⟩
  · rw [if_neg (by rw [h.tb.hkd]; exact hk), if_neg (by rw [h.tb.hkd]; exact hs), h.tb.len]
    exact ⟨D0, (h.bi hk n (Nat.le_refl _)).ti hk, hz⟩
theorem TI.deliver (h : TI n root kd o vs t D g) (hs : ¬ kd = sScan) (k : Nat) : dlvG g k = dlvT g k := if_neg (by rw [h.hkd]; exact hs)
end
end Gr

/- The text G14. -/
set_option linter.unusedVariables false
set_option linter.unusedSimpArgs false
set_option maxRecDepth 10000
namespace Go.Proofs.Ytoikjjpleonllaa
open Go Go.KK Gr

theorem newG_good {L : List Asn} {va : Option Addr} {n cap : Nat} {k o : ByteArray} {root : Int} {vs : List Int} [SlIn intE L va vs] (hn : n = vs.length) (hg : goodN k o root vs) :
    CallS Try.prog 10 [.string k, .string o, .int .i64 root, .slice va n cap].toArray L (fun v M => ∃ p am cm bs, v = .tuple #[.pointer (some ⟨p, 0, none⟩), .int .i64 0] ∧ M = GB p am cm bs (newG k o root vs) :: L) :=
  (newG_ok hn).mono fun v M h => ⟨M, (h.resolve_left fun g => g.1 hg).2, fun _ s => s⟩
/-- The values that a collective begins with. -/
def vsG (g : Gs) : Nat → Int := fun p => (mem g p).v
theorem mem_ms {g : Gs} {W : List Int} (hm : g.ms = ms0 W) {p : Nat} (hp : p < W.length) : mem g p = ⟨W.getD p 0, 0, [], false, 0⟩ := by
  unfold mem
  rw [hm, List.getD_eq_getElem?_getD]
  unfold ms0
  rw [List.getElem?_map, List.getElem?_eq_getElem hp, List.getD_eq_getElem?_getD, List.getElem?_eq_getElem hp]; rfl
def W0 (k : ByteArray) (vs : List Int) : List Int := if k = sBar then List.replicate vs.length 0 else vs
def o0 (k o : ByteArray) : ByteArray := if k = sBar then ⟨#[43]⟩ else o
theorem W0_len (k : ByteArray) (vs : List Int) : (W0 k vs).length = vs.length := by unfold W0; split <;> simp
theorem g0_ms (k o : ByteArray) (root : Int) (vs : List Int) : (g0 k o root vs).ms = ms0 (W0 k vs) ∧ (g0 k o root vs).op = o0 k o := by unfold g0 W0 o0; split <;> exact ⟨rfl, rfl⟩
def vs0 (k : ByteArray) (vs : List Int) : Nat → Int := fun p => (W0 k vs).getD p 0
theorem raw_g0 {k o : ByteArray} {r : Nat} {vs : List Int} (h1 : 1 ≤ vs.length) (h8 : vs.length ≤ 8) (hr : r < vs.length) : Raw vs.length r k (o0 k o) (vs0 k vs) (g0 k o (r : Int) vs) := by
  obtain ⟨a1, a2, a3, a4⟩ := g0_kind k o (r : Int) vs
  obtain ⟨b1, b2⟩ := g0_ms k o (r : Int) vs
  have hm := fun {p : Nat} (hp : p < vs.length) => mem_ms b1 (p := p) (by rw [W0_len]; exact hp)
  refine ⟨⟨by omega, hr, g0_len _ _ _ _, a1, a2, b2, wf_g0 h1 h8, fun p hp => by rw [hm hp]; rfl, fun p hp c hc => ?_, fun p hp => ?_⟩, fun p hp => by rw [hm hp], a3, a4⟩
  · rw [hm hp, if_neg (by unfold D0; simp)]; rfl
  · rw [hm hp]
    rw [List.filter_eq_nil_iff.2 (fun a _ => D0n (a, true))]; rfl
theorem good_new {k o : ByteArray} {r : Nat} {vs : List Int} (h1 : 1 ≤ vs.length) (h8 : vs.length ≤ 8) (hr : r < vs.length) (hs : ¬ k = sScan) : Gd vs.length r k (o0 k o) (vs0 k vs) 0 (newG k o (r : Int) vs) := (raw_g0 h1 h8 hr).good hs
/-- What the calls need. -/
theorem Gd.use {n root : Nat} {kd o : ByteArray} {vs : Nat → Int} {t : Nat} {g : Gs} (h : Gd n root kd o vs t g) (ho : okOp o) : wf g ∧ g.ms.length = n ∧ g.fly.length ≤ 72 ∧ okOp g.op ∧ g.kind = kd ∧ g.root = (root : Int) ∧ (0 ≤ g.root ∧ g.root < (g.ms.length : Int)) ∧ t ≤ 14 := by
  have h1 := h.le
  obtain ⟨D, hT, ht⟩ := h
  have h2 := all_le (kd := kd) hT.hn hT.hr
  have h3 := hT.few
  have h4 := hT.hr
  refine ⟨hT.hwf, hT.len, by omega, by rw [hT.hop]; exact ho, hT.hkd, hT.hroot, by rw [hT.hroot, hT.len]; omega, by omega⟩
theorem Gd.dlv {n root : Nat} {kd o : ByteArray} {vs : Nat → Int} {t : Nat} {g : Gs} (h : Gd n root kd o vs t g) (hs : ¬ kd = sScan) {k : Nat} (hk : k < g.fly.length) : Gd n root kd o vs (t + 1) (dlvG g k) := by
  have h1 := h.step hk
  obtain ⟨D, hT, ht⟩ := h
  rw [hT.deliver hs]; exact h1
theorem sub_zero (n root : Nat) (vs : Nat → Int) (hz : ∀ p, vs p = 0) : ∀ f c, subF n root ⟨#[43]⟩ vs f c = 0
  | 0, c => hz c
  | f + 1, c => by
    show (chP n root c).foldl (fun a x => opV ⟨#[43]⟩ a (subF n root ⟨#[43]⟩ vs f x)) (vs c) = 0
    rw [hz c]
    have : ∀ l : List Nat, l.foldl (fun a x => opV ⟨#[43]⟩ a (subF n root ⟨#[43]⟩ vs f x)) 0 = 0 := by
      intro l
      induction l with
      | nil => rfl
      | cons x l ih =>
        rw [List.foldl_cons, sub_zero n root vs hz f x]
        have e : opV ⟨#[43]⟩ 0 0 = 0 := by decide
        rw [e]; exact ih
    exact this _
theorem tot_bar (n root : Nat) (o : ByteArray) (vs : List Int) : tot n root sBar (o0 sBar o) (vs0 sBar vs) = 0 := by
  unfold tot
  rw [if_neg (by decide)]
  have e : o0 sBar o = ⟨#[43]⟩ := if_pos rfl
  rw [e]
  unfold sub
  refine sub_zero n root _ (fun p => ?_) n root
  unfold vs0 W0
  rw [if_pos rfl, List.getD_eq_getElem?_getD, List.getElem?_replicate]
  split <;> rfl
theorem all_bar {n root : Nat} (hn : n < 9) (hr : root < n) {kd : ByteArray} (h1 : ¬ kd = sCast) (h2 : ¬ kd = sRed) : (all_ n root kd : Int) = 2 * ((n : Int) - 1) := by
  have := base_len n hn root hr
  unfold all_ ids
  rw [if_neg h1, if_neg h2, List.length_append, List.length_map, List.length_map]; omega
theorem res_some {g : Gs} {q : Nat} (hq : q < g.ms.length) (hk : ¬ g.kind = sRed) (hh : (mem g q).has = true) : resV g (q : Int) = ((mem g q).res, 0) := by
  unfold resV
  rw [if_neg (by rintro (h | h | h) <;> first | omega | exact hk h.1), Int.toNat_natCast, if_pos hh]
end Go.Proofs.Ytoikjjpleonllaa

/- The text GSI. -/
set_option linter.unusedVariables false
set_option linter.unusedSimpArgs false
/-! What is kept while a scan goes on. -/
namespace Gr
open Go Go.KK
abbrev Id2 := Nat × Nat
def vS (o : ByteArray) (vs : Nat → Int) (p : Nat) : Nat → Int
  | 0 => vs p
  | r + 1 => if 2 ^ r ≤ p then opV o (vS o vs (p - 2 ^ r) r) (vS o vs p r) else vS o vs p r
section
variable (n : Nat) (o : ByteArray) (vs : Nat → Int)
def mS : Id2 → Ms := fun i => ⟨i.1, i.1 + 2 ^ i.2, vS o vs i.1 i.2, false, i.2⟩
theorem mS_inj : ∀ i j : Id2, mS o vs i = mS o vs j → i = j
  | (p, r), (q, s), h => by unfold mS at h; injection h with h1 h2 h3 h4 h5; dsimp only at h1 h5; rw [h1, h5]
def TS (ph : Nat → Nat) (g : Gs) (i : Id2) : Prop := i.1 < n ∧ 1 ≤ ph i.1 ∧ i.2 ≤ (mem g i.1).r ∧ i.1 + 2 ^ i.2 < n
structure SJ (t : Nat) (D : Id2 → Bool) (ph : Nat → Nat) (g : Gs) : Prop where
  hn : n < 9
  len : g.ms.length = n
  hkd : g.kind = sScan
  hop : g.op = o
  hwf : wf g
  val : ∀ p, p < n → (mem g p).v = vS o vs p (mem g p).r
  got : ∀ p, p < n → ∀ r : Nat, lookI (mem g p).got (r : Int) = if 2 ^ r ≤ p ∧ D (p - 2 ^ r, r) = true then some (vS o vs (p - 2 ^ r) r) else none
  rd : ∀ p, p < n → ∀ r, r < (mem g p).r → 2 ^ r < n ∧ (2 ^ r ≤ p → D (p - 2 ^ r, r) = true)
  raw : ∀ p, p < n → ph p = 0 → (mem g p).r = 0
  run : ∀ p, p < n → ph p ≤ 1 → (mem g p).has = false
  fin : ∀ p, p < n → ph p = 2 → (n ≤ 2 ^ (mem g p).r ∧ (mem g p).has = true ∧ (mem g p).res = (mem g p).v) ∨ (2 ^ (mem g p).r < n ∧ 2 ^ (mem g p).r ≤ p ∧ ¬ D (p - 2 ^ (mem g p).r, (mem g p).r) = true ∧ (mem g p).has = false)
  fly : FlyIs (mS o vs) (fun i => TS n ph g i ∧ ¬ D i = true) g.fly
  cl : ∀ i, D i = true → TS n ph g i
  sent : g.sent = wr ((t : Int) + (g.fly.length : Int))
end
def upd (ph : Nat → Nat) (p x : Nat) : Nat → Nat := fun q => if q = p then x else ph q
theorem upd_self (ph : Nat → Nat) (p x : Nat) : upd ph p x p = x := if_pos rfl
theorem upd_ne (ph : Nat → Nat) {p q : Nat} (x : Nat) (h : q ≠ p) : upd ph p x q = ph q := if_neg h
section
variable {n : Nat} {o : ByteArray} {vs : Nat → Int} {t : Nat} {D : Id2 → Bool} {ph : Nat → Nat} {g : Gs}
theorem send_at (g : Gs) (p : Nat) (hv : (mem g p).v = vS o vs p (mem g p).r) : send g p = if p + 2 ^ (mem g p).r < g.ms.length then put g (mS o vs (p, (mem g p).r)) else g := by
  unfold send mS; rw [hv]
/-- A member sends. -/
theorem fly_send {T : Id2 → Prop} (g : Gs) {p : Nat} (hl : g.ms.length = n) (hv : (mem g p).v = vS o vs p (mem g p).r) (hf : FlyIs (mS o vs) T g.fly) (hT : ¬ T (p, (mem g p).r)) (hs : g.sent = wr ((t : Int) + (g.fly.length : Int))) :
    FlyIs (mS o vs) (fun j => T j ∨ (p + 2 ^ (mem g p).r < n ∧ j = (p, (mem g p).r))) (send g p).fly ∧ (send g p).sent = wr ((t : Int) + ((send g p).fly.length : Int)) := by
  rw [send_at g p hv, hl]
  split
  · rename_i h
    refine ⟨(hf.add (mS_inj o vs) hT).congr fun j => ?_, ?_⟩
    · exact ⟨fun g => g.elim .inl (fun g => .inr g.2), fun g => g.elim .inl (fun g => .inr ⟨h, g⟩)⟩
    · show wr (g.sent + 1) = wr ((t : Int) + ((g.fly ++ [_]).length : Int))
      rw [hs, wr_add, List.length_append]; rfl
  · rename_i h
    exact ⟨hf.congr fun j => ⟨fun g => g.elim id (fun g => absurd g.1 h), .inl⟩, hs⟩
theorem mem_send (g : Gs) (p q : Nat) : mem (send g p) q = mem g q := by unfold mem; rw [send_ms]
theorem send_same (g : Gs) (p : Nat) : (send g p).kind = g.kind ∧ (send g p).op = g.op := ⟨(send_op g p).2.1, (send_op g p).1⟩
/-- A round is done. -/
theorem SJ.adv (h : SJ n o vs t D ph g) {p : Nat} (hp : p < n) (hph : ph p = 1) (hr : 2 ^ (mem g p).r < n) (hD : 2 ^ (mem g p).r ≤ p → D (p - 2 ^ (mem g p).r, (mem g p).r) = true) {m : Mm} (hm : m = { mem g p with v := vS o vs p ((mem g p).r + 1), r := (mem g p).r + 1 }) :
    SJ n o vs t D ph (send (setM g p m) p) := by
  have hlp : p < g.ms.length := by rw [h.len]; exact hp
  have h2 := r_lt h.hwf hlp (by rw [h.len]; exact hr)
  have hmr : m.r = (mem g p).r + 1 := by rw [hm]
  have hmv : m.v = vS o vs p ((mem g p).r + 1) := by rw [hm]
  have hmg : m.got = (mem g p).got := by rw [hm]
  have hmh : m.has = (mem g p).has := by rw [hm]
  have hmX : ∀ q, mem (send (setM g p m) p) q = if q = p then m else mem g q := fun q => by rw [mem_send, mem_setM hlp]
  have hmY : mem (setM g p m) p = m := by rw [mem_setM hlp, if_pos rfl]
  have hw1 := wf_set (p := p) (m := m) h.hwf (by omega)
  have hcl : ¬ D (p, (mem g p).r + 1) = true := fun e => by have := (h.cl _ e).2.2.1; dsimp only at this; omega
  have hs := send_same (setM g p m) p
  have hf := fly_send (T := fun i => TS n ph g i ∧ ¬ D i = true) (o := o) (vs := vs) (n := n) (t := t) (setM g p m) (p := p) ((set_len _ _ _).trans h.len) (by rw [hmY, hmv, hmr]) h.fly (fun e => by have := e.1.2.2.1; rw [hmY, hmr] at this; dsimp only at this; omega) h.sent
  rw [hmY, hmr] at hf
  have hTS : ∀ i, TS n ph (send (setM g p m) p) i ↔ TS n ph g i ∨ (p + 2 ^ ((mem g p).r + 1) < n ∧ i = (p, (mem g p).r + 1)) := by
    rintro ⟨q, r⟩
    unfold TS
    dsimp only
    rw [hmX]
    by_cases e : q = p
    · subst e
      rw [if_pos rfl, hmr]
      constructor
      · rintro ⟨a1, a2, a3, a4⟩
        by_cases e2 : r = (mem g q).r + 1
        · subst e2; exact .inr ⟨a4, rfl⟩
        · exact .inl ⟨a1, a2, by omega, a4⟩
      · rintro (⟨a1, a2, a3, a4⟩ | ⟨a, e2⟩)
        · exact ⟨a1, a2, by omega, a4⟩
        · injection e2 with _ e3; subst e3; exact ⟨hp, by omega, Nat.le_refl _, a⟩
    · rw [if_neg e]
      exact ⟨.inl, fun g => g.elim id (fun g => by injection g.2 with e1; exact absurd e1 e)⟩
  refine ⟨h.hn, by rw [send_len, set_len]; exact h.len, hs.1.trans h.hkd, hs.2.trans h.hop, wf_send hw1 (by rw [set_len]; exact hlp), fun q hq => ?_, fun q hq r => ?_, fun q hq r hr2 => ?_, fun q hq hph2 => ?_, fun q hq hph2 => ?_, fun q hq hph2 => ?_, hf.1.congr fun i => ?_, fun i hi => (hTS i).2 (.inl (h.cl i hi)), hf.2⟩
  · rw [hmX]; split
    · rename_i e; rw [hmv, hmr, e]
    · exact h.val q hq
  · rw [hmX]; split
    · rename_i e; rw [hmg, e]; exact h.got p hp r
    · exact h.got q hq r
  · rw [hmX] at hr2
    by_cases e : q = p
    · rw [if_pos e, hmr] at hr2
      rw [e]
      by_cases e2 : r = (mem g p).r
      · rw [e2]; exact ⟨hr, hD⟩
      · exact h.rd p hp r (by omega)
    · rw [if_neg e] at hr2; exact h.rd q hq r hr2
  · have e : q ≠ p := fun e => by rw [e, hph] at hph2; cases hph2
    rw [hmX, if_neg e]; exact h.raw q hq hph2
  · rw [hmX]; split
    · rw [hmh]; exact h.run p hp (by omega)
    · exact h.run q hq hph2
  · have e : q ≠ p := fun e => by rw [e, hph] at hph2; cases hph2
    rw [hmX, if_neg e]; exact h.fin q hq hph2
  · rw [hTS]
    constructor
    · rintro ⟨a | a, b⟩
      · exact .inl ⟨a, b⟩
      · exact .inr a
    · rintro (⟨a, b⟩ | a)
      · exact ⟨.inl a, b⟩
      · exact ⟨.inr a, by rw [a.2]; exact hcl⟩
theorem TS_upd {p : Nat} {x : Nat} (hph : 1 ≤ ph p) (hx : 1 ≤ x) (g : Gs) (i : Id2) : TS n (upd ph p x) g i ↔ TS n ph g i := by
  unfold TS
  by_cases e : i.1 = p
  · rw [e, upd_self]; exact ⟨fun ⟨a, b, c⟩ => ⟨a, hph, c⟩, fun ⟨a, b, c⟩ => ⟨a, hx, c⟩⟩
  · rw [upd_ne _ _ e]
theorem SJ.wait (h : SJ n o vs t D ph g) {p : Nat} (hp : p < n) (hph : ph p = 1) (hr : 2 ^ (mem g p).r < n) (h2 : 2 ^ (mem g p).r ≤ p) (hD : ¬ D (p - 2 ^ (mem g p).r, (mem g p).r) = true) : SJ n o vs t D (upd ph p 2) g := by
  refine ⟨h.hn, h.len, h.hkd, h.hop, h.hwf, h.val, h.got, h.rd, fun q hq e => ?_, fun q hq e => ?_, fun q hq e => ?_, h.fly.congr fun i => by rw [TS_upd (by omega) (by omega)], fun i hi => (TS_upd (by omega) (by omega) g i).2 (h.cl i hi), h.sent⟩
  · by_cases e2 : q = p
    · rw [e2, upd_self] at e; cases e
    · rw [upd_ne _ _ e2] at e; exact h.raw q hq e
  · by_cases e2 : q = p
    · rw [e2, upd_self] at e; omega
    · rw [upd_ne _ _ e2] at e; exact h.run q hq e
  · by_cases e2 : q = p
    · rw [e2]; exact .inr ⟨hr, h2, hD, h.run p hp (by omega)⟩
    · rw [upd_ne _ _ e2] at e; exact h.fin q hq e
theorem SJ.done (h : SJ n o vs t D ph g) {p : Nat} (hp : p < n) (hph : ph p = 1) (hr : ¬ 2 ^ (mem g p).r < n) : SJ n o vs t D (upd ph p 2) (setM g p { mem g p with res := (mem g p).v, has := true }) := by
  have hlp : p < g.ms.length := by rw [h.len]; exact hp
  have h9 := h.hwf.2.2.1 _ (mem_mem hlp)
  have hmX := mem_setM (m := { mem g p with res := (mem g p).v, has := true }) hlp
  have hrX : ∀ q, (mem (setM g p { mem g p with res := (mem g p).v, has := true }) q).r = (mem g q).r := fun q => by rw [hmX]; split <;> simp_all
  have hTS : ∀ i, TS n (upd ph p 2) (setM g p { mem g p with res := (mem g p).v, has := true }) i ↔ TS n ph g i := fun i => by
    rw [TS_upd (by omega) (by omega)]; unfold TS; rw [hrX]
  refine ⟨h.hn, by rw [set_len]; exact h.len, h.hkd, h.hop, wf_set h.hwf h9, fun q hq => ?_, fun q hq r => ?_, fun q hq r hr2 => ?_, fun q hq e => ?_, fun q hq e => ?_, fun q hq e => ?_, h.fly.congr fun i => by rw [hTS], fun i hi => (hTS i).2 (h.cl i hi), h.sent⟩
  · rw [hrX, hmX]; split
    · rename_i e; rw [e]; exact h.val p hp
    · exact h.val q hq
  · rw [hmX]; split
    · rename_i e; rw [e]; exact h.got p hp r
    · exact h.got q hq r
  · rw [hrX] at hr2; exact h.rd q hq r hr2
  · by_cases e2 : q = p
    · rw [e2, upd_self] at e; cases e
    · rw [upd_ne _ _ e2] at e; rw [hrX]; exact h.raw q hq e
  · by_cases e2 : q = p
    · rw [e2, upd_self] at e; omega
    · rw [upd_ne _ _ e2] at e; rw [hmX, if_neg e2]; exact h.run q hq e
  · by_cases e2 : q = p
    · rw [e2, hmX, if_pos rfl]; exact .inl ⟨Nat.le_of_not_lt hr, rfl, rfl⟩
    · rw [upd_ne _ _ e2] at e; rw [hmX, if_neg e2]; exact h.fin q hq e
/-- A member goes on as far as it can. -/
theorem SJ.scan : ∀ (f : Nat) {g : Gs}, SJ n o vs t D ph g → ∀ {p : Nat}, p < n → ph p = 1 → 4 ≤ f + (mem g p).r → SJ n o vs t D (upd ph p 2) (scan f g p)
  | 0, g, h, p, hp, hph, hf => by have := h.hwf.2.2.1 _ (mem_mem (show p < g.ms.length by rw [h.len]; exact hp)); omega
  | f + 1, g, h, p, hp, hph, hf => by
    have hlp : p < g.ms.length := by rw [h.len]; exact hp
    have hgo := h.got p hp (mem g p).r
    by_cases hr : 2 ^ (mem g p).r < n
    · have hr' : 2 ^ (mem g p).r < g.ms.length := by rw [h.len]; exact hr
      have next : (2 ^ (mem g p).r ≤ p → D (p - 2 ^ (mem g p).r, (mem g p).r) = true) → ∀ m : Mm, m = { mem g p with v := vS o vs p ((mem g p).r + 1), r := (mem g p).r + 1 } → SJ n o vs t D (upd ph p 2) (Gr.scan f (send (setM g p m) p) p) := fun hD m hm => by
        have h1 := h.adv hp hph hr hD hm
        exact SJ.scan f h1 hp hph (by rw [mem_send, mem_setM hlp, if_pos rfl, hm]; dsimp only; omega)
      by_cases hp2 : 2 ^ (mem g p).r ≤ p
      · by_cases hD : D (p - 2 ^ (mem g p).r, (mem g p).r) = true
        · rw [if_pos ⟨hp2, hD⟩] at hgo
          rw [scan_some hlp hr' hp2 hgo]
          refine next (fun _ => hD) _ ?_
          have e : opV g.op (vS o vs (p - 2 ^ (mem g p).r) (mem g p).r) (mem g p).v = vS o vs p ((mem g p).r + 1) := by
            show _ = if 2 ^ (mem g p).r ≤ p then _ else _
            rw [if_pos hp2, h.val p hp, h.hop]
          rw [e]
        · rw [if_neg (fun e => hD e.2)] at hgo
          rw [scan_wait hr' hp2 hgo]
          exact h.wait hp hph hr hp2 hD
      · rw [scan_go hr' hp2]
        refine next (fun e => absurd e hp2) _ ?_
        have e : (mem g p).v = vS o vs p ((mem g p).r + 1) := by
          show _ = if 2 ^ (mem g p).r ≤ p then _ else _
          rw [if_neg hp2, h.val p hp]
        rw [← e]
    · rw [scan_end (by rw [h.len]; exact hr)]
      exact h.done hp hph hr
/-- The beginning of one. -/
theorem SJ.start (h : SJ n o vs t D ph g) {p : Nat} (hp : p < n) (hph : ph p = 0) : SJ n o vs t D (upd ph p 2) (Gr.scan 4 (send g p) p) := by
  have hlp : p < g.ms.length := by rw [h.len]; exact hp
  have hr0 := h.raw p hp hph
  have hcl : ∀ r, ¬ D (p, r) = true := fun r e => by have := (h.cl _ e).2.1; dsimp only at this; omega
  have hs := send_same g p
  have hf := fly_send (T := fun i => TS n ph g i ∧ ¬ D i = true) (o := o) (vs := vs) (n := n) (t := t) g (p := p) h.len (h.val p hp) h.fly (fun e => by have := e.1.2.1; dsimp only at this; omega) h.sent
  rw [hr0] at hf
  have hTS : ∀ i, TS n (upd ph p 1) (send g p) i ↔ TS n ph g i ∨ (p + 2 ^ 0 < n ∧ i = (p, 0)) := by
    rintro ⟨q, r⟩
    unfold TS
    dsimp only
    rw [mem_send]
    by_cases e : q = p
    · subst e
      rw [upd_self, hr0]
      constructor
      · rintro ⟨a1, a2, a3, a4⟩
        have : r = 0 := by omega
        subst this; exact .inr ⟨a4, rfl⟩
      · rintro (⟨a1, a2, a3, a4⟩ | ⟨a, e2⟩)
        · omega
        · injection e2 with _ e3; subst e3; exact ⟨hp, by omega, Nat.le_refl _, a⟩
    · rw [upd_ne _ _ e]
      exact ⟨.inl, fun g => g.elim id (fun g => by injection g.2 with e1; exact absurd e1 e)⟩
  have h1 : SJ n o vs t D (upd ph p 1) (send g p) := by
    refine ⟨h.hn, by rw [send_len]; exact h.len, hs.1.trans h.hkd, hs.2.trans h.hop, wf_send h.hwf hlp, fun q hq => ?_, fun q hq r => ?_, fun q hq r hr2 => ?_, fun q hq e => ?_, fun q hq e => ?_, fun q hq e => ?_, hf.1.congr fun i => ?_, fun i hi => (hTS i).2 (.inl (h.cl i hi)), hf.2⟩
    · rw [mem_send]; exact h.val q hq
    · rw [mem_send]; exact h.got q hq r
    · rw [mem_send] at hr2; exact h.rd q hq r hr2
    · by_cases e2 : q = p
      · rw [e2, upd_self] at e; cases e
      · rw [upd_ne _ _ e2] at e; rw [mem_send]; exact h.raw q hq e
    · rw [mem_send]
      by_cases e2 : q = p
      · rw [e2]; exact h.run p hp (by omega)
      · rw [upd_ne _ _ e2] at e; exact h.run q hq e
    · by_cases e2 : q = p
      · rw [e2, upd_self] at e; cases e
      · rw [upd_ne _ _ e2] at e; rw [mem_send]; exact h.fin q hq e
    · rw [hTS]
      constructor
      · rintro ⟨a | a, b⟩
        · exact .inl ⟨a, b⟩
        · exact .inr a
      · rintro (⟨a, b⟩ | a)
        · exact ⟨.inl a, b⟩
        · exact ⟨.inr a, by rw [a.2]; exact hcl 0⟩
  have h2 := SJ.scan 4 h1 hp (upd_self _ _ _) (by omega)
  have e : upd (upd ph p 1) p 2 = upd ph p 2 := by funext q; unfold upd; split <;> rfl
  rwa [e] at h2
def on2 (D : Id2 → Bool) (i : Id2) : Id2 → Bool := fun j => D j || decide (j = i)
theorem on2_iff {i j : Id2} : on2 D i j = true ↔ D j = true ∨ j = i := by unfold on2; simp
/-- A message comes. -/
theorem SJ.dlv (h : SJ n o vs t D (fun _ => 2) g) {k : Nat} {i : Id2} (hk : g.fly[k]? = some (mS o vs i)) (hi : TS n (fun _ => 2) g i) (hDi : ¬ D i = true) : SJ n o vs (t + 1) (on2 D i) (fun _ => 2) (dlvS g k) := by
  obtain ⟨q, r⟩ := i
  obtain ⟨hq, -, hrq, hqr⟩ := id hi
  dsimp only at hq hrq hqr
  have hl := (List.getElem?_eq_some_iff.1 hk).1
  have hm : msg g k = mS o vs (q, r) := Option.some.inj ((msg_get hl).symm.trans hk)
  obtain ⟨p, hpe⟩ : ∃ p, p = q + 2 ^ r := ⟨_, rfl⟩
  have hp : p < n := by omega
  have hqe : q = p - 2 ^ r := by omega
  have hle : 2 ^ r ≤ p := by omega
  have hlp : p < (takeM g k).ms.length := by show p < g.ms.length; rw [h.len]; exact hp
  obtain ⟨m1, hm1⟩ : ∃ m1 : Mm, m1 = { mem g p with got := setI (mem g p).got (r : Int) (vS o vs q r) } := ⟨_, rfl⟩
  have hgot : gotM g (msg g k) = m1 := by rw [hm, hm1, hpe]; rfl
  have hto : (msg g k).to = p := by rw [hm, hpe]; rfl
  have hd : dlvS g k = Gr.scan 4 (setM (takeM g k) p m1) p := by unfold dlvS; rw [hgot, hto]
  have hmr : m1.r = (mem g p).r := by rw [hm1]
  have hmX : ∀ x, mem (setM (takeM g k) p m1) x = if x = p then m1 else mem g x := fun x => mem_setM hlp x
  have hrX : ∀ x, (mem (setM (takeM g k) p m1) x).r = (mem g x).r := fun x => by rw [hmX]; split; (rename_i e; rw [e, hmr]); rfl
  have h9 := h.hwf.2.2.1 _ (mem_mem (show p < g.ms.length by rw [h.len]; exact hp))
  have hTS : ∀ i, TS n (upd (fun _ => 2) p 1) (setM (takeM g k) p m1) i ↔ TS n (fun _ => 2) g i := fun i => by
    rw [TS_upd (by decide) (by decide)]; unfold TS; rw [hrX]
  have hhas : (mem g p).has = false := by
    rcases h.fin p hp rfl with ⟨a, -, -⟩ | ⟨-, -, -, a⟩
    · exfalso
      have hrp : r < (mem g p).r := Classical.byContradiction fun e => by
        have := Nat.pow_le_pow_right (show 0 < 2 by decide) (Nat.le_of_not_lt e)
        omega
      have := (h.rd p hp r hrp).2 hle
      rw [← hqe] at this
      exact hDi this
    · exact a
  have h1 : SJ n o vs (t + 1) (on2 D (q, r)) (upd (fun _ => 2) p 1) (setM (takeM g k) p m1) := by
    refine ⟨h.hn, by rw [set_len]; exact h.len, h.hkd, h.hop, wf_set (wf_take h.hwf k) (by rw [hmr]; exact h9), fun x hx => ?_, fun x hx s => ?_, fun x hx s hs => ?_, fun x hx e => ?_, fun x hx e => ?_, fun x hx e => ?_, (h.fly.del (mS_inj o vs) hk).congr fun j => ?_, fun j hj => ?_, ?_⟩
    · rw [hrX, hmX]; split
      · rename_i e; rw [hm1, e]; exact h.val p hp
      · exact h.val x hx
    · rw [hmX]; split
      · rename_i e; subst e
        rw [hm1]
        show lookI (setI (mem g x).got (r : Int) (vS o vs q r)) (s : Int) = _
        rw [lookI_set]
        by_cases e2 : s = r
        · rw [e2, if_pos rfl, ← hqe, if_pos ⟨hle, on2_iff.2 (.inr rfl)⟩]
        · rw [if_neg (by omega), h.got x hx s]
          have : on2 D (q, r) (x - 2 ^ s, s) = D (x - 2 ^ s, s) := by unfold on2; simp [e2]
          rw [this]
      · rename_i e
        rw [h.got x hx s]
        by_cases e2 : 2 ^ s ≤ x
        · have : on2 D (q, r) (x - 2 ^ s, s) = D (x - 2 ^ s, s) := by
            unfold on2
            have : (x - 2 ^ s, s) ≠ (q, r) := fun e3 => by injection e3 with e4 e5; subst e5; omega
            simp [this]
          rw [this]
        · rw [if_neg (fun g => e2 g.1), if_neg (fun g => e2 g.1)]
    · rw [hrX] at hs
      obtain ⟨a, b⟩ := h.rd x hx s hs
      exact ⟨a, fun c => on2_iff.2 (.inl (b c))⟩
    · by_cases e2 : x = p
      · rw [e2, upd_self] at e; cases e
      · rw [upd_ne _ _ e2] at e; cases e
    · by_cases e2 : x = p
      · rw [hmX, if_pos e2, hm1]; exact hhas
      · rw [upd_ne _ _ e2] at e; omega
    · by_cases e2 : x = p
      · rw [e2, upd_self] at e; cases e
      · rw [hmX, if_neg e2]
        rcases h.fin x hx rfl with a | ⟨a1, a2, a3, a4⟩
        · exact .inl a
        · refine .inr ⟨a1, a2, fun g1 => ?_, a4⟩
          rcases on2_iff.1 g1 with g1 | g1
          · exact a3 g1
          · injection g1 with g2 g3; rw [g3] at g2 a2; omega
    · rw [hTS, on2_iff]
      exact ⟨fun ⟨a, b⟩ => ⟨⟨a, fun c => b (.inl c)⟩, fun c => b (.inr c)⟩, fun ⟨⟨a, b⟩, c⟩ => ⟨a, fun d => d.elim b c⟩⟩
    · rw [hTS]
      rcases on2_iff.1 hj with a | rfl
      · exact h.cl j a
      · exact hi
    · show g.sent = _
      rw [h.sent]
      congr 1
      show _ = ((t + 1 : Nat) : Int) + ((g.fly.take k ++ g.fly.drop (k + 1)).length : Int)
      have : (g.fly.take k ++ g.fly.drop (k + 1)).length + 1 = g.fly.length := by rw [List.length_append, List.length_take, List.length_drop]; omega
      omega
  have h2 := SJ.scan 4 h1 hp (upd_self _ _ _) (by omega)
  have e : upd (upd (fun _ => 2) p 1) p 2 = fun _ => 2 := by funext x; unfold upd; split <;> rfl
  rw [e] at h2
  rw [hd]; exact h2
end
end Gr

/- The text GAC. -/
set_option linter.unusedVariables false
set_option linter.unusedSimpArgs false
/-! Folding. -/
namespace Gr
open Go Go.KK
theorem wr_addR (x y : Int) : wr (x + wr y) = wr (x + y) := by rw [Int.add_comm, wr_add, Int.add_comm]
theorem wr_cong {a b : Int} (h : a % 18446744073709551616 = b % 18446744073709551616) : wr a = wr b := by
  unfold wr; simp [IntKind.wrap, IntKind.bits, IntKind.signed]; omega
theorem wr_mod (a : Int) : wr a % 18446744073709551616 = a % 18446744073709551616 := by
  unfold wr; simp [IntKind.wrap, IntKind.bits, IntKind.signed]; omega
theorem wr_mul (x y : Int) : wr (wr x * y) = wr (x * y) := by
  apply wr_cong; rw [Int.mul_emod, wr_mod, ← Int.mul_emod]
theorem wr_mulR (x y : Int) : wr (x * wr y) = wr (x * y) := by rw [Int.mul_comm, wr_mul, Int.mul_comm]
theorem opV_assoc (o : ByteArray) (a b c : Int) : opV o (opV o a b) c = opV o a (opV o b c) := by
  unfold opV
  split
  · rw [wr_add, wr_addR, Int.add_assoc]
  · split
    · rw [wr_mul, wr_mulR, Int.mul_assoc]
    · split <;> omega
theorem opV_comm (o : ByteArray) (a b : Int) : opV o a b = opV o b a := by
  unfold opV
  split
  · rw [Int.add_comm]
  · split
    · rw [Int.mul_comm]
    · split <;> omega
def fold1 (o : ByteArray) : List Int → Int
  | [] => 0
  | x :: l => l.foldl (opV o) x
theorem fold_op (o : ByteArray) : ∀ (l : List Int) (a b : Int), opV o a (l.foldl (opV o) b) = l.foldl (opV o) (opV o a b)
  | [], a, b => rfl
  | x :: l, a, b => by rw [List.foldl_cons, List.foldl_cons, fold_op o l, opV_assoc]
theorem fold1_app (o : ByteArray) {l m : List Int} (hl : l ≠ []) (hm : m ≠ []) : fold1 o (l ++ m) = opV o (fold1 o l) (fold1 o m) := by
  cases l with
  | nil => exact absurd rfl hl
  | cons x l =>
    cases m with
    | nil => exact absurd rfl hm
    | cons y m =>
      show (l ++ y :: m).foldl (opV o) x = opV o (l.foldl (opV o) x) (m.foldl (opV o) y)
      rw [List.foldl_append, List.foldl_cons, fold_op]
theorem foldl_perm (o : ByteArray) {l m : List Int} (h : l.Perm m) : ∀ a, l.foldl (opV o) a = m.foldl (opV o) a := by
  induction h with
  | nil => intro a; rfl
  | cons x _ ih => intro a; exact ih _
  | swap x y l => intro a; rw [List.foldl_cons, List.foldl_cons, List.foldl_cons, List.foldl_cons, opV_assoc, opV_assoc, opV_comm o y x]
  | trans _ _ ih1 ih2 => intro a; rw [ih1, ih2]
theorem fold1_perm (o : ByteArray) {l m : List Int} (h : l.Perm m) : fold1 o l = fold1 o m := by
  induction h with
  | nil => rfl
  | cons x h _ => exact foldl_perm o h x
  | swap x y l => show (x :: l).foldl (opV o) y = (y :: l).foldl (opV o) x; rw [List.foldl_cons, List.foldl_cons, opV_comm]
  | trans _ _ ih1 ih2 => rw [ih1, ih2]
/-- A member and all below it. -/
def descF (n root : Nat) : Nat → Nat → List Nat
  | 0, c => [c]
  | f + 1, c => c :: (chP n root c).flatMap (descF n root f)
theorem descF_ne (n root f c : Nat) : descF n root f c ≠ [] := by cases f <;> simp [descF]
theorem subF_fold (n root : Nat) (o : ByteArray) (vs : Nat → Int) : ∀ f c, subF n root o vs f c = fold1 o ((descF n root f c).map vs)
  | 0, c => rfl
  | f + 1, c => by
    show (chP n root c).foldl (fun a x => opV o a (subF n root o vs f x)) (vs c) = (((chP n root c).flatMap (descF n root f)).map vs).foldl (opV o) (vs c)
    have : ∀ (l : List Nat) (a : Int), l.foldl (fun a x => opV o a (subF n root o vs f x)) a = ((l.flatMap (descF n root f)).map vs).foldl (opV o) a := by
      intro l
      induction l with
      | nil => intro a; rfl
      | cons x l ih =>
        intro a
        rw [List.foldl_cons, ih, List.flatMap_cons, List.map_append, List.foldl_append]
        congr 1
        rw [subF_fold n root o vs f x]
        cases e : descF n root f x with
        | nil => exact absurd e (descF_ne n root f x)
        | cons y ys => rw [List.map_cons, List.foldl_cons]; exact fold_op o _ _ _
    exact this _ _
theorem desc_perm : ∀ n, n < 9 → ∀ root, root < n → (descF n root n root).Perm (List.range n) := by decide +kernel
theorem sub_all {n root : Nat} (hn : n < 9) (hr : root < n) (o : ByteArray) (vs : Nat → Int) : sub n root o vs root = fold1 o ((List.range n).map vs) := by
  unfold sub
  rw [subF_fold]
  exact fold1_perm o ((desc_perm n hn root hr).map vs)
theorem vS_fold (o : ByteArray) (vs : Nat → Int) : ∀ r p, vS o vs p r = fold1 o ((List.range' (p + 1 - min (2 ^ r) (p + 1)) (min (2 ^ r) (p + 1))).map vs)
  | 0, p => by
    have e : min (2 ^ 0) (p + 1) = 1 := by omega
    rw [e]; rfl
  | r + 1, p => by
    have hpos : 0 < 2 ^ r := Nat.pow_pos (by decide)
    show (if 2 ^ r ≤ p then opV o (vS o vs (p - 2 ^ r) r) (vS o vs p r) else vS o vs p r) = _
    split
    · rename_i h
      rw [vS_fold o vs r (p - 2 ^ r), vS_fold o vs r p]
      have e1 : min (2 ^ r) (p + 1) = 2 ^ r := by omega
      have hne : ∀ s m, 0 < m → (List.range' s m).map vs ≠ [] := fun s m hm e => by
        have := congrArg List.length e
        simp at this; omega
      rw [← fold1_app o (hne _ _ (by omega)) (hne _ _ (by omega)), ← List.map_append]
      have e2 : p - 2 ^ r + 1 - min (2 ^ r) (p - 2 ^ r + 1) + min (2 ^ r) (p - 2 ^ r + 1) = p + 1 - min (2 ^ r) (p + 1) := by omega
      rw [← e2, List.range'_append_1]
      have e3 : min (2 ^ r) (p - 2 ^ r + 1) + min (2 ^ r) (p + 1) = min (2 ^ (r + 1)) (p + 1) := by rw [Nat.pow_succ]; omega
      have e4 : p - 2 ^ r + 1 - min (2 ^ r) (p - 2 ^ r + 1) = p + 1 - min (2 ^ (r + 1)) (p + 1) := by rw [Nat.pow_succ]; omega
      rw [e3, e4]
    · rename_i h
      rw [vS_fold o vs r p]
      have e3 : min (2 ^ r) (p + 1) = min (2 ^ (r + 1)) (p + 1) := by rw [Nat.pow_succ]; omega
      rw [e3]
theorem vS_all (o : ByteArray) (vs : Nat → Int) {r p : Nat} (h : p < 2 ^ r) : vS o vs p r = fold1 o ((List.range (p + 1)).map vs) := by
  rw [vS_fold, show min (2 ^ r) (p + 1) = p + 1 by omega, Nat.sub_self, List.range_eq_range']
/-! Scans from beginning to end. -/
def ids2 (n : Nat) : List Id2 := (List.range n).flatMap fun p => ((List.range 3).filter fun r => decide (p + 2 ^ r < n)).map fun r => (p, r)
theorem ids2_nodup : ∀ n, n < 9 → (ids2 n).Nodup := by decide +kernel
set_option synthInstance.maxHeartbeats 400000 in
set_option synthInstance.maxSize 2000 in
theorem ids2_mem' : ∀ n, n < 9 → ∀ p, p < n → ∀ r, r < 4 → p + 2 ^ r < n → (p, r) ∈ ids2 n := by decide +kernel
theorem ids2_of : ∀ n, n < 9 → ∀ i ∈ ids2 n, i.1 < n ∧ i.1 + 2 ^ i.2 < n := by decide +kernel
theorem ids2_scm : ∀ n, n < 9 → 1 ≤ n → ((ids2 n).length : Int) = scm 4 (n : Int) 1 0 := by decide +kernel
theorem ids2_le : ∀ n, n < 9 → (ids2 n).length ≤ 17 := by decide +kernel
section
variable {n : Nat} {o : ByteArray} {vs : Nat → Int} {t : Nat} {D : Id2 → Bool} {ph : Nat → Nat} {g : Gs}
def D2 : Id2 → Bool := fun _ => false
theorem D2n (i : Id2) : ¬ D2 i = true := fun e => by unfold D2 at e; cases e
theorem SJ.cong {ph' : Nat → Nat} (h : SJ n o vs t D ph g) (e : ∀ q, q < n → ph' q = ph q) : SJ n o vs t D ph' g := by
  have hT : ∀ i, TS n ph' g i ↔ TS n ph g i := fun i => by
    unfold TS
    constructor
    · rintro ⟨a, b⟩; rw [e _ a] at b; exact ⟨a, b⟩
    · rintro ⟨a, b⟩; rw [← e _ a] at b; exact ⟨a, b⟩
  exact ⟨h.hn, h.len, h.hkd, h.hop, h.hwf, h.val, h.got, h.rd, fun p hp g => h.raw p hp (by rw [← e p hp]; exact g), fun p hp g => h.run p hp (by rw [← e p hp]; exact g), fun p hp g => h.fin p hp (by rw [← e p hp]; exact g), h.fly.congr fun i => by rw [hT], fun i hi => (hT i).2 (h.cl i hi), h.sent⟩
/-- A scan at its very beginning. -/
structure RawS (n : Nat) (o : ByteArray) (vs : Nat → Int) (g : Gs) : Prop where
  hn : n < 9
  len : g.ms.length = n
  hkd : g.kind = sScan
  hop : g.op = o
  hwf : wf g
  mm : ∀ p, p < n → (mem g p).v = vs p ∧ (mem g p).r = 0 ∧ (mem g p).got = [] ∧ (mem g p).has = false
  fly : g.fly = []
  sent : g.sent = 0
theorem RawS.sj (h : RawS n o vs g) : SJ n o vs 0 D2 (fun _ => 0) g := by
  refine ⟨h.hn, h.len, h.hkd, h.hop, h.hwf, fun p hp => by rw [(h.mm p hp).2.1]; exact (h.mm p hp).1, fun p hp r => ?_, fun p hp r hr => ?_, fun p hp _ => (h.mm p hp).2.1, fun p hp _ => (h.mm p hp).2.2.2, fun p hp e => (by cases e), ?_, fun i hi => absurd hi (D2n i), ?_⟩
  · rw [(h.mm p hp).2.2.1, if_neg (fun g => D2n _ g.2)]; rfl
  · rw [(h.mm p hp).2.1] at hr; exact absurd hr (Nat.not_lt_zero _)
  · rw [h.fly]; exact FlyIs.nil fun i g => by have := g.1.2.1; dsimp only at this; omega
  · rw [h.sent, h.fly]; decide
theorem RawS.beg (h : RawS n o vs g) : ∀ k, k ≤ n → SJ n o vs 0 D2 (fun q => if q < k then 2 else 0) (begS g k)
  | 0, _ => h.sj.cong fun q _ => rfl
  | k + 1, hk => by
    have h1 := (RawS.beg h k (by omega)).start (p := k) (by omega) (if_neg (Nat.lt_irrefl k))
    refine h1.cong fun q hq => ?_
    unfold upd
    dsimp only
    by_cases e : q = k
    · rw [if_pos e, if_pos (by omega)]
    · rw [if_neg e]
      by_cases e2 : q < k
      · rw [if_pos e2, if_pos (by omega)]
      · rw [if_neg e2, if_neg (by omega)]
def GdS (n : Nat) (o : ByteArray) (vs : Nat → Int) (t : Nat) (g : Gs) : Prop := (∃ D, SJ n o vs t D (fun _ => 2) g ∧ t = ((ids2 n).filter D).length) ∧ g.fly.length ≤ 40 + 4 * t
theorem RawS.good (h : RawS n o vs g) : GdS n o vs 0 (beginG g) := by
  have e : beginG g = begS g n := by unfold beginG; rw [if_neg (by rw [h.hkd]; decide), if_pos h.hkd, h.len]
  rw [e]
  have hk := begS_keep h.hwf n (by rw [h.len]; exact Nat.le_refl _)
  refine ⟨⟨D2, (h.beg n (Nat.le_refl _)).cong fun q hq => (if_pos hq).symm, ?_⟩, ?_⟩
  · rw [List.filter_eq_nil_iff.2 (fun a _ => D2n a)]; rfl
  · have := hk.2.2.1
    rw [h.fly] at this
    have := h.hn
    simp at *; omega
theorem TS_ids (h : SJ n o vs t D ph g) {i : Id2} (hi : TS n ph g i) : i ∈ ids2 n := by
  obtain ⟨p, r⟩ := i
  obtain ⟨a1, a2, a3, a4⟩ := hi
  have := h.hwf.2.2.1 _ (mem_mem (show p < g.ms.length by rw [h.len]; exact a1))
  dsimp only at a3
  exact ids2_mem' n h.hn p a1 r (by omega) a4
theorem GdS.step (h : GdS n o vs t g) {k : Nat} (hk : k < g.fly.length) : GdS n o vs (t + 1) (dlvS g k) := by
  obtain ⟨⟨D, hT, ht⟩, hf⟩ := h
  obtain ⟨i, ⟨h1, h2⟩, h3⟩ := hT.fly.get (List.mem_of_getElem? (msg_get hk))
  have hk2 : g.fly[k]? = some (mS o vs i) := by rw [← h3]; exact msg_get hk
  have hc := cnt_one (D := D) (i := i) (by simpa using h2) (ids2_nodup n hT.hn) (TS_ids hT h1)
  have hkk := dlvS_keep hT.hwf hk
  exact ⟨⟨on2 D i, hT.dlv hk2 h1 h2, by rw [ht, ← hc]; rfl⟩, by have := hkk.2.2.1; omega⟩
theorem GdS.le (h : GdS n o vs t g) : t ≤ 17 := by
  obtain ⟨⟨D, hT, ht⟩, hf⟩ := h
  have := ids2_le n hT.hn
  have h2 := List.length_filter_le D (ids2 n)
  omega
/-- When nothing flies, all are done. -/
theorem SJ.ends (h : SJ n o vs t D (fun _ => 2) g) (he : g.fly = []) : ∀ p, p < n → n ≤ 2 ^ (mem g p).r ∧ (mem g p).has = true ∧ (mem g p).res = (mem g p).v := by
  intro p
  induction p using Nat.strongRecOn with
  | _ p ih =>
    intro hp
    rcases h.fin p hp rfl with a | ⟨a1, a2, a3, a4⟩
    · exact a
    · exfalso
      have hpos : 0 < 2 ^ (mem g p).r := Nat.pow_pos (by decide)
      have hq := (ih (p - 2 ^ (mem g p).r) (by omega) (by omega)).1
      refine h.fly.none he (p - 2 ^ (mem g p).r, (mem g p).r) ⟨⟨by dsimp only; omega, by dsimp only; omega, ?_, by dsimp only; omega⟩, a3⟩
      dsimp only
      exact Classical.byContradiction fun e => by
        have := Nat.pow_le_pow_right (show 0 < 2 by decide) (Nat.le_of_lt (Nat.lt_of_not_le e))
        omega
theorem GdS.end_ (h : GdS n o vs t g) (he : g.fly = []) : t = (ids2 n).length ∧ g.sent = (t : Int) ∧ ∀ p, p < n → (mem g p).has = true ∧ (mem g p).res = fold1 o ((List.range (p + 1)).map vs) := by
  have hle := h.le
  obtain ⟨⟨D, hT, ht⟩, hf⟩ := h
  have hends := hT.ends he
  refine ⟨?_, ?_, fun p hp => ?_⟩
  · rw [ht, List.length_filter_eq_length_iff]
    rintro ⟨p, r⟩ hi
    obtain ⟨a1, a2⟩ := ids2_of n hT.hn _ hi
    dsimp only at a1 a2
    refine Classical.byContradiction fun e => hT.fly.none he (p, r) ⟨⟨a1, by dsimp only; omega, ?_, a2⟩, e⟩
    dsimp only
    have hq := (hends p a1).1
    exact Classical.byContradiction fun e => by
      have := Nat.pow_le_pow_right (show 0 < 2 by decide) (Nat.le_of_lt (Nat.lt_of_not_le e))
      omega
  · rw [hT.sent, he]
    have e := wr_id (x := (t : Int)) (by omega) (by omega)
    simpa using e
  · obtain ⟨b1, b2, b3⟩ := hends p hp
    exact ⟨b2, by rw [b3, hT.val p hp]; exact vS_all o vs (by omega)⟩
end
end Gr

/- The text G15. -/
set_option linter.unusedVariables false
set_option linter.unusedSimpArgs false
set_option maxRecDepth 10000
namespace Go.Proofs.Ytoikjjpleonllaa
open Go Go.KK Gr

def valE : Enc (Int × Bool) := ⟨94, 2, fun p => [.int .i64 p.1, .bool p.2], fun _ => rfl, fun s v h => by
  simp only [List.mem_cons, List.not_mem_nil, or_false] at h; rcases h with rfl | rfl <;> rfl⟩
def tru (b : Bool) : Int := if b = true then 1 else 0
/-- What the document's operation makes of two. -/
def rOp (o : ByteArray) (a b : Int) : Int :=
  if o = ⟨#[43]⟩ then wr (a + b) else if o = ⟨#[42]⟩ then wr (a * b) else if o = ⟨#[109, 105, 110]⟩ then min a b else if o = ⟨#[109, 97, 120]⟩ then max a b
  else if o = ⟨#[38]⟩ then tru (decide (a = 1 ∧ b = 1)) else tru (decide (a = 1 ∨ b = 1))
end Go.Proofs.Ytoikjjpleonllaa

/- The text G9. -/
set_option linter.unusedVariables false
set_option linter.unusedSimpArgs false
set_option maxRecDepth 10000
namespace Go.Proofs.Ytoikjjpleonllaa
open Go Go.KK Gr

instance : IntT Try.prog 3 .i64 := ⟨Try.underlying3⟩
instance : IntT Try.prog 98 .u64 := ⟨Try.underlying98⟩
instance : IntT Try.prog 126 .u64 := ⟨Try.underlying126⟩
def cntV (t : ByteArray) (n : Int) : Int × Int :=
  if t ∈ kinds ∧ 1 ≤ n ∧ n ≤ 8 then
    (if t = ⟨#[99, 97, 115, 116]⟩ ∨ t = ⟨#[114, 101, 100, 117, 99, 101]⟩ then n - 1
     else if t = ⟨#[97, 108, 108]⟩ ∨ t = ⟨#[98, 97, 114, 114, 105, 101, 114]⟩ then 2 * (n - 1) else scm 4 n 1 0, 0)
  else (0, 2)
end Go.Proofs.Ytoikjjpleonllaa

/- The text G16. -/
set_option linter.unusedVariables false
set_option linter.unusedSimpArgs false
set_option maxRecDepth 10000
namespace Go.Proofs.Ytoikjjpleonllaa
open Go Go.KK Gr

def accV (o : ByteArray) (vs : List Int) : Nat → Int
  | 0 => vs.getD 0 0
  | j + 1 => opV o (accV o vs j) (vs.getD (j + 1) 0)
def accR (o : ByteArray) (vs : List Int) : Nat → Int
  | 0 => vs.getD 0 0
  | j + 1 => rOp o (accR o vs j) (vs.getD (j + 1) 0)
theorem fold_acc (o : ByteArray) (vs : List Int) : ∀ j, fold1 o ((List.range (j + 1)).map fun p => vs.getD p 0) = accV o vs j
  | 0 => rfl
  | j + 1 => by
    rw [List.range_succ, List.map_append, fold1_app o (by simp) (by simp), fold_acc o vs j]; rfl
theorem rOp_eq {o : ByteArray} (ho : okOp o) {a b : Int} (h : (o = ⟨#[38]⟩ ∨ o = ⟨#[124]⟩) → (a = 0 ∨ a = 1) ∧ (b = 0 ∨ b = 1)) : rOp o a b = opV o a b ∧ ((o = ⟨#[38]⟩ ∨ o = ⟨#[124]⟩) → opV o a b = 0 ∨ opV o a b = 1) := by
  unfold rOp opV
  rcases ho with e | e | e | e | e | e
  · subst e; exact ⟨rfl, fun g => absurd g (by decide)⟩
  · subst e; exact ⟨rfl, fun g => absurd g (by decide)⟩
  · subst e; exact ⟨rfl, fun g => absurd g (by decide)⟩
  · subst e; exact ⟨rfl, fun g => absurd g (by decide)⟩
  · subst e
    obtain ⟨h1, h2⟩ := h (.inl rfl)
    rcases h1 with rfl | rfl <;> rcases h2 with rfl | rfl <;> exact ⟨rfl, fun _ => by decide⟩
  · subst e
    obtain ⟨h1, h2⟩ := h (.inr rfl)
    rcases h1 with rfl | rfl <;> rcases h2 with rfl | rfl <;> exact ⟨rfl, fun _ => by decide⟩
theorem acc_eq {o : ByteArray} (ho : okOp o) {vs : List Int} (h : (o = ⟨#[38]⟩ ∨ o = ⟨#[124]⟩) → ∀ v ∈ vs, v = 0 ∨ v = 1) : ∀ j, j < vs.length → accR o vs j = accV o vs j ∧ ((o = ⟨#[38]⟩ ∨ o = ⟨#[124]⟩) → accV o vs j = 0 ∨ accV o vs j = 1)
  | 0, hj => ⟨rfl, fun g => h g _ (by show vs.getD 0 0 ∈ vs; rw [List.getD_eq_getElem?_getD, List.getElem?_eq_getElem hj]; exact List.getElem_mem hj)⟩
  | j + 1, hj => by
    obtain ⟨a1, a2⟩ := acc_eq ho h j (by omega)
    have hm : vs.getD (j + 1) 0 ∈ vs := by rw [List.getD_eq_getElem?_getD, List.getElem?_eq_getElem hj]; exact List.getElem_mem hj
    have := rOp_eq ho (a := accV o vs j) (b := vs.getD (j + 1) 0) fun g => ⟨a2 g, h g _ hm⟩
    show rOp o (accR o vs j) _ = opV o (accV o vs j) _ ∧ (_ → opV o (accV o vs j) _ = 0 ∨ opV o (accV o vs j) _ = 1)
    rw [a1]; exact this
theorem acc_good {k o : ByteArray} {root : Int} {vs : List Int} (hg : goodN k o root vs) (hk : needN k) {j : Nat} (hj : j < vs.length) : accR o vs j = accV o vs j := by
  refine (acc_eq (ok_ops hg.1.2.1) (fun g v hv => ?_) j hj).1
  refine Classical.byContradiction fun e => hg.2 ⟨hk, g, v, hv, ?_⟩
  unfold isNB; omega
/-- What a member's result is, when all is over. -/
def resT (k o : ByteArray) (root : Int) (vs : List Int) (p : Nat) : Int × Int :=
  if k = sScan then (accR o vs p, 0) else if k = sCast then (vs.getD root.toNat 0, 0) else if k = sBar then (0, 0) else if k = sAll then (accR o vs (vs.length - 1), 0)
  else if (p : Int) = root then (accR o vs (vs.length - 1), 0) else (0, 2)
theorem resT_scan {k o : ByteArray} {root : Int} {vs : List Int} {p : Nat} (h : k = sScan) : resT k o root vs p = (accR o vs p, 0) := if_pos h
theorem resT_cast {k o : ByteArray} {root : Int} {vs : List Int} {p : Nat} (h : k = sCast) : resT k o root vs p = (vs.getD root.toNat 0, 0) := by subst h; rfl
theorem resT_bar {k o : ByteArray} {root : Int} {vs : List Int} {p : Nat} (h : k = sBar) : resT k o root vs p = (0, 0) := by subst h; rfl
theorem resT_all {k o : ByteArray} {root : Int} {vs : List Int} {p : Nat} (h : k = sAll) : resT k o root vs p = (accR o vs (vs.length - 1), 0) := by subst h; rfl
theorem resT_red1 {k o : ByteArray} {root : Int} {vs : List Int} {p : Nat} (h : k = sRed) (h2 : (p : Int) = root) : resT k o root vs p = (accR o vs (vs.length - 1), 0) := by subst h; exact if_pos h2
theorem resT_red2 {k o : ByteArray} {root : Int} {vs : List Int} {p : Nat} (h : k = sRed) (h2 : ¬ (p : Int) = root) : resT k o root vs p = (0, 2) := by subst h; exact if_neg h2
/-- What is kept, of all kinds. -/
def GF (k o : ByteArray) (root : Int) (vs : List Int) (t : Nat) (g : Gs) : Prop :=
  if k = sScan then GdS vs.length o (fun p => vs.getD p 0) t g else Gd vs.length root.toNat k (o0 k o) (vs0 k vs) t g
theorem GF_new {k o : ByteArray} {root : Int} {vs : List Int} (hg : goodN k o root vs) : GF k o root vs 0 (newG k o root vs) := by
  obtain ⟨⟨g1, g2, ⟨g3, g4⟩, g5⟩, g6⟩ := hg
  unfold GF
  split
  · rename_i h
    have hb : ¬ k = sBar := by rw [h]; decide
    have hw : W0 k vs = vs := if_neg hb
    obtain ⟨a1, a2, a3, a4⟩ := g0_kind k o root vs
    obtain ⟨b1, b2⟩ := g0_ms k o root vs
    refine RawS.good ⟨by omega, g0_len _ _ _ _, a1.trans h, b2.trans (if_neg hb), wf_g0 g3 g4, fun p hp => ?_, a3, a4⟩
    rw [mem_ms b1 (by rw [W0_len]; exact hp), hw]; exact ⟨rfl, rfl, rfl, rfl⟩
  · rename_i h
    have hr := g5 h
    have e : root = ((root.toNat : Nat) : Int) := by omega
    have := good_new (k := k) (o := o) (r := root.toNat) (vs := vs) g3 g4 (by omega) h
    rw [← e] at this; exact this
theorem o0_ok {k o : ByteArray} (h : okOp o) : okOp (o0 k o) := by unfold o0; split; exact .inl rfl; exact h
theorem GF_use {k o : ByteArray} {root : Int} {vs : List Int} {t : Nat} {g : Gs} (hg : goodN k o root vs) (h : GF k o root vs t g) : wf g ∧ g.ms.length = vs.length ∧ g.fly.length ≤ 110 ∧ okOp g.op ∧ (¬ g.kind = sScan → 0 ≤ g.root ∧ g.root < (g.ms.length : Int)) ∧ g.kind = k ∧ t ≤ 17 := by
  have ho := ok_ops hg.1.2.1
  unfold GF at h
  split at h
  · rename_i hk
    have h17 := h.le
    obtain ⟨⟨D, hT, ht⟩, hf⟩ := h
    exact ⟨hT.hwf, hT.len, by omega, by rw [hT.hop]; exact ho, fun e => absurd hT.hkd e, hT.hkd.trans hk.symm, h17⟩
  · obtain ⟨u1, u2, u3, u4, u5, u6, u7, u8⟩ := Gd.use h (o0_ok ho)
    exact ⟨u1, u2, by omega, u4, fun _ => u7, u5, by omega⟩
theorem GF_dlv {k o : ByteArray} {root : Int} {vs : List Int} {t : Nat} {g : Gs} (h : GF k o root vs t g) {q : Nat} (hq : q < g.fly.length) : GF k o root vs (t + 1) (dlvG g q) := by
  unfold GF at h ⊢
  split at h
  · rename_i hk
    rw [if_pos hk]
    have h1 := h.step hq
    obtain ⟨⟨D, hT, ht⟩, hf⟩ := h
    have e : dlvG g q = dlvS g q := if_pos hT.hkd
    rw [e]; exact h1
  · rename_i hk
    rw [if_neg hk]; exact Gd.dlv h hk hq
theorem all_one {n root : Nat} (hn : n < 9) (hr : root < n) {kd : ByteArray} (h : kd = sCast ∨ kd = sRed) : (all_ n root kd : Int) = (n : Int) - 1 := by
  have := base_len n hn root hr
  unfold all_ ids
  rcases h with rfl | rfl
  · rw [if_pos rfl, if_neg (by decide), List.length_append, List.length_map]; simp; omega
  · rw [if_neg (by decide), if_pos rfl, List.length_append, List.length_map]; simp; omega
theorem cnt_is {k : ByteArray} {n : Nat} (hk : k ∈ kinds) (h1 : 1 ≤ n) (h8 : n ≤ 8) : cntV k (n : Int) = (if k = sCast ∨ k = sRed then (n : Int) - 1 else if k = sAll ∨ k = sBar then 2 * ((n : Int) - 1) else scm 4 (n : Int) 1 0, 0) := if_pos ⟨hk, by omega, by omega⟩
theorem GF_end {k o : ByteArray} {root : Int} {vs : List Int} {t : Nat} {g : Gs} (hg : goodN k o root vs) (h : GF k o root vs t g) (he : g.fly = []) : g.sent = (cntV k (vs.length : Int)).1 ∧ ∀ p, p < vs.length → resV g (p : Int) = resT k o root vs p := by
  have hu := GF_use hg h
  obtain ⟨⟨g1, g2, ⟨g3, g4⟩, g5⟩, g6⟩ := id hg
  obtain ⟨u1, u2, u3, u4, u5, u6, u7⟩ := hu
  unfold GF at h
  rw [cnt_is g1 g3 g4]
  split at h
  · rename_i hk
    obtain ⟨e1, e2, e3⟩ := h.end_ he
    constructor
    · rw [e2, e1, ids2_scm _ (by omega) g3]
      rw [if_neg (by rw [hk]; decide), if_neg (by rw [hk]; decide)]
    · intro p hp
      rw [res_some (by omega) (by rw [u6, hk]; decide) (e3 p hp).1, (e3 p hp).2, resT_scan hk, fold_acc, acc_good hg (.inr (.inr hk)) hp]
  · rename_i hk
    have hr := g5 hk
    have hrn : root.toNat < vs.length := by omega
    obtain ⟨e1, e2, e3, e4, e5⟩ := h.end_ he
    have hroot : g.root = root := by
      obtain ⟨D, hT, ht⟩ := h
      rw [hT.hroot]; omega
    have hkk := g1
    simp only [kinds, List.mem_cons, List.not_mem_nil, or_false] at hkk
    have htot : ∀ (hb : ¬ k = sBar) (hc : ¬ k = sCast) (hn : needN k), tot vs.length root.toNat k (o0 k o) (vs0 k vs) = accR o vs (vs.length - 1) := fun hb hc hn => by
      unfold tot
      rw [if_neg hc, sub_all (by omega) hrn]
      have e6 : o0 k o = o := if_neg hb
      have e7 : vs0 k vs = fun p => vs.getD p 0 := by unfold vs0 W0; rw [if_neg hb]
      rw [e6, e7, acc_good hg hn (by omega), ← fold_acc, show vs.length - 1 + 1 = vs.length by omega]
    rcases hkk with hk1 | hk1 | hk1 | hk1 | hk1
    · have hb : ¬ k = sBar := by rw [hk1]; decide
      constructor
      · rw [e2, e1, all_one (by omega) hrn (.inl hk1), if_pos (.inl hk1)]
      · intro p hp
        obtain ⟨f1, f2⟩ := e5 (by rw [hk1]; decide) p hp
        rw [res_some (by omega) (by rw [u6, hk1]; decide) f1, f2, resT_cast hk1]
        unfold tot
        rw [if_pos (show k = sCast from hk1)]
        unfold vs0 W0
        rw [if_neg hb]
    · constructor
      · rw [e2, e1, all_one (by omega) hrn (.inr hk1), if_pos (.inr hk1)]
      · intro p hp
        by_cases e : (p : Int) = root
        · rw [resT_red1 hk1 e]
          have ep : p = root.toNat := by omega
          unfold resV
          rw [if_neg (by rintro (h | h | h); omega; omega; exact h.2 (e.trans hroot.symm)), Int.toNat_natCast, ep, if_pos e3, e4, htot (by rw [hk1]; decide) (by rw [hk1]; decide) (.inl hk1)]
        · rw [resT_red2 hk1 e]
          unfold resV
          rw [if_pos (.inr (.inr ⟨u6.trans hk1, by rw [hroot]; exact e⟩))]
    · constructor
      · rw [e2, e1, all_bar (by omega) hrn (by rw [hk1]; decide) (by rw [hk1]; decide), if_neg (by rw [hk1]; decide), if_pos (.inl hk1)]
      · intro p hp
        obtain ⟨f1, f2⟩ := e5 (by rw [hk1]; decide) p hp
        rw [res_some (by omega) (by rw [u6, hk1]; decide) f1, f2, resT_all hk1, htot (by rw [hk1]; decide) (by rw [hk1]; decide) (.inr (.inl hk1))]
    · constructor
      · rw [e2, e1, all_bar (by omega) hrn (by rw [hk1]; decide) (by rw [hk1]; decide), if_neg (by rw [hk1]; decide), if_pos (.inr hk1)]
      · intro p hp
        obtain ⟨f1, f2⟩ := e5 (by rw [hk1]; decide) p hp
        have hk2 : k = sBar := hk1
        rw [res_some (by omega) (by rw [u6, hk1]; decide) f1, f2, resT_bar hk1]
        subst hk2
        rw [tot_bar]
    · exact absurd hk1 hk
end Go.Proofs.Ytoikjjpleonllaa
