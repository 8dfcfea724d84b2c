/-
  A part of the proof of the claim that this folder bears.
-/
import Derived.Test.YtoikjjpleonllaaPAI
/- The text GTI5. -/
set_option linter.unusedVariables false
set_option linter.unusedSimpArgs false
namespace Gr
open Go Go.KK
section
variable {n root : Nat} {kd o : ByteArray} {vs : Nat → Int} {t : Nat} {D : Id → Bool} {g : Gs}
/-- A collective at its very beginning. -/
structure Raw (n root : Nat) (kd o : ByteArray) (vs : Nat → Int) (g : Gs) : Prop where
  tb : TB n root kd o vs D0 g
  has : ∀ p, p < n → (mem g p).has = false
  fly : g.fly = []
  sent : g.sent = 0
theorem D0n (i : Id) : ¬ D0 i = true := fun e => by unfold D0 at e; cases e
theorem comb0 {p : Nat} : comb n root D0 p ↔ chP n root p = [] := by
  constructor
  · intro h
    cases e : chP n root p with
    | nil => rfl
    | cons c l => have := h c (by rw [e]; exact List.mem_cons_self ..); cases this
  · intro h c hc; rw [h] at hc; cases hc
theorem wr0 : wr 0 = 0 := by decide
theorem Raw.cast (h : Raw n root kd o vs g) (hk : kd = sCast) : TI n root kd o vs 0 D0 (castG g root (tot n root kd o vs)) := by
  have hn := h.tb.hn
  have hr := h.tb.hr
  have hT := h.tb
  have hnr : ¬ kd = sRed := by rw [hk]; decide
  have hHs : ∀ q, Hs n root kd D0 q ↔ q = root := fun q => by
    by_cases e : q = root
    · subst e; rw [Hs_root]; exact ⟨fun _ => rfl, fun _ => .inl hk⟩
    · rw [Hs_ne e]; exact ⟨fun g => (by cases g), fun g => absurd g e⟩
  have hfl := hT.cast_fly hr
  have hb := FlyIs.addL (mOf_inj n root kd o vs) (T := fun _ => False) (fly := []) (FlyIs.nil fun _ => id) (ns_nodup (ch_nodup n hn root hr root hr)) (fun _ _ => id)
  refine (hT.cast hr _).ti ⟨fun p hp => ?_, fun p hp hh => ?_, ?_, fun i hi => (by cases hi), ?_, ?_⟩
  · rw [hT.cast_mem hr, hHs]
    split
    · rename_i e; exact ⟨fun _ => e, fun _ => rfl⟩
    · rename_i e; rw [h.has p hp]; exact ⟨fun g => (by cases g), fun g => absurd g e⟩
  · rw [hT.cast_mem hr, if_pos ((hHs p).1 hh)]
  · rw [hfl, h.fly]
    refine hb.congr ?_
    rintro ⟨q, b⟩
    rw [ns_mem]
    cases b
    · show ((¬ kd = sRed ∧ q < n ∧ q ≠ root ∧ Hs n root kd D0 (parP n root q)) ∧ ¬ D0 _ = true) ↔ False ∨ _
      rw [hHs]
      constructor
      · rintro ⟨⟨_, a2, a3, a4⟩, _⟩; exact .inr ⟨rfl, (ch_par n hn root hr root hr q a2).2 ⟨a3, a4⟩⟩
      · rintro (g | ⟨_, a⟩)
        · cases g
        · have hqn := ch_lt a (by omega)
          have := (ch_par n hn root hr root hr q hqn).1 a
          exact ⟨⟨hnr, hqn, this.1, this.2⟩, D0n _⟩
    · exact ⟨fun g => absurd hk g.1.1, fun g => g.elim (fun g => g.elim) (fun g => by cases g.1)⟩
  · rw [hT.cast_sent (tot n root kd o vs) 0 (by rw [h.sent, wr0]), hfl, h.fly]
    simp
  · rw [hfl, h.fly, List.nil_append, List.length_map, List.length_map]
    have := chP_len n root root
    omega
/-- Behind the beginning of some members. -/
structure BI (n root : Nat) (kd o : ByteArray) (vs : Nat → Int) (k : Nat) (g : Gs) : Prop where
  tb : TB n root kd o vs D0 g
  has : ∀ p, p < n → ((mem g p).has = true ↔ p = root ∧ root < k ∧ chP n root root = [])
  res : ∀ p, p < n → (mem g p).has = true → (mem g p).res = tot n root kd o vs
  fly : FlyIs (mOf n root kd o vs) (fun i => i.2 = true ∧ i.1 < k ∧ i.1 ≠ root ∧ chP n root i.1 = []) g.fly
  sent : g.sent = wr ((g.fly.length : Nat) : Int)
  few : g.fly.length ≤ k
theorem BI.next (hk : ¬ kd = sCast) {k : Nat} (hkn : k < n) (h : BI n root kd o vs k g) : BI n root kd o vs (k + 1) (if chG g k = [] then combG g k else g) := by
  have hT := h.tb
  have hn := hT.hn
  have hr := hT.hr
  by_cases hc : chP n root k = []
  · rw [if_pos (by rw [hT.ch]; exact hc)]
    have hacc := hT.acc hkn (comb0.2 hc)
    by_cases hkr : k = root
    · have hcr : chP n root root = [] := by have e := hc; rw [hkr] at e; exact e
      have htot : sub n root o vs k = tot n root kd o vs := by unfold tot; rw [if_neg hk, hkr]
      have hlk : k < g.ms.length := by rw [hT.len]; exact hkn
      have hfl2 : FlyIs (mOf n root kd o vs) (fun i => i.2 = true ∧ i.1 < k + 1 ∧ i.1 ≠ root ∧ chP n root i.1 = []) g.fly := h.fly.congr fun i => ⟨fun ⟨a1, a2, a3, a4⟩ => ⟨a1, by omega, a3, a4⟩, fun ⟨a1, a2, a3, a4⟩ => ⟨a1, by omega, a3, a4⟩⟩
      by_cases hred : kd = sRed
      · have hcg : combG g k = setM g k { mem g k with res := tot n root kd o vs, has := true } := by
          unfold combG; rw [if_neg (not_not_intro (hkr.trans hT.rt.symm)), if_pos (hT.hkd.trans hred), hacc, htot]
        rw [hcg]
        refine ⟨hT.set hkn _, fun p hp => ?_, fun p hp hh => ?_, hfl2, h.sent, Nat.le_succ_of_le h.few⟩
        · rw [mem_setM hlk]; split
          · rename_i e; exact ⟨fun _ => ⟨e.trans hkr, by omega, hcr⟩, fun _ => rfl⟩
          · rename_i e; rw [h.has p hp]; exact ⟨fun ⟨a, b, c⟩ => ⟨a, by omega, c⟩, fun ⟨a, _, _⟩ => absurd (a.trans hkr.symm) e⟩
        · rw [mem_setM hlk] at hh ⊢
          split
          · rfl
          · rename_i e; rw [if_neg e] at hh; exact h.res p hp hh
      · have hcg : combG g k = castG g k (tot n root kd o vs) := by
          unfold combG; rw [if_neg (not_not_intro (hkr.trans hT.rt.symm)), if_neg (by rw [hT.hkd]; exact hred), hacc, htot]
        have hfl : (castG g k (tot n root kd o vs)).fly = g.fly := by rw [hT.cast_fly hkn, hc]; simp
        rw [hcg]
        refine ⟨hT.cast hkn _, fun p hp => ?_, fun p hp hh => ?_, by rw [hfl]; exact hfl2, by rw [hT.cast_sent _ _ h.sent, hfl, hc]; simp, by rw [hfl]; exact Nat.le_succ_of_le h.few⟩
        · rw [hT.cast_mem hkn]; split
          · rename_i e; exact ⟨fun _ => ⟨e.trans hkr, by omega, hcr⟩, fun _ => rfl⟩
          · rename_i e; rw [h.has p hp]; exact ⟨fun ⟨a, b, c⟩ => ⟨a, by omega, c⟩, fun ⟨a, _, _⟩ => absurd (a.trans hkr.symm) e⟩
        · rw [hT.cast_mem hkn] at hh ⊢
          split
          · rfl
          · rename_i e; rw [if_neg e] at hh; exact h.res p hp hh
    · have hcg : combG g k = put g (mOf n root kd o vs (k, true)) := by
        unfold combG; rw [if_pos (by rw [hT.rt]; exact hkr), hacc, hT.len, hT.rt]; rfl
      rw [hcg]
      have h1 := h.fly.add (mOf_inj n root kd o vs) (i := (k, true)) (fun g => Nat.lt_irrefl _ g.2.1)
      refine ⟨hT.put ⟨par_lt (by omega), hkn, Nat.zero_le _⟩, fun p hp => ?_, h.res, h1.congr fun i => ?_, ?_, ?_⟩
      · show (mem g p).has = true ↔ _
        rw [h.has p hp]
        exact ⟨fun ⟨a, b, c⟩ => ⟨a, by omega, c⟩, fun ⟨a, b, c⟩ => ⟨a, by omega, c⟩⟩
      · obtain ⟨q, b⟩ := i
        constructor
        · rintro ⟨a1, a2, a3, a4⟩
          by_cases e : q = k
          · right; rw [e, show b = true from a1]
          · left; exact ⟨a1, (by have : q < k + 1 := a2; show q < k; omega), a3, a4⟩
        · rintro (⟨a1, a2, a3, a4⟩ | e)
          · exact ⟨a1, (by have : q < k := a2; show q < k + 1; omega), a3, a4⟩
          · injection e with e1 e2; subst e1; subst e2; exact ⟨rfl, Nat.lt_succ_self _, hkr, hc⟩
      · show wr (g.sent + 1) = wr (((g.fly ++ [_]).length : Nat) : Int)
        rw [h.sent, wr_add, List.length_append]; simp
      · show (g.fly ++ [_]).length ≤ _
        have := h.few
        rw [List.length_append]; simp; omega
  · rw [if_neg (by rw [hT.ch]; exact hc)]
    refine ⟨hT, fun p hp => ?_, h.res, h.fly.congr fun i => ?_, h.sent, Nat.le_succ_of_le h.few⟩
    · rw [h.has p hp]
      constructor
      · rintro ⟨a, b, c⟩; exact ⟨a, by omega, c⟩
      · rintro ⟨a, b, c⟩
        have : root ≠ k := fun e => hc (e ▸ c)
        exact ⟨a, by omega, c⟩
    · constructor
      · rintro ⟨a1, a2, a3, a4⟩
        have : i.1 ≠ k := fun e => hc (e ▸ a4)
        exact ⟨a1, by omega, a3, a4⟩
      · rintro ⟨a1, a2, a3, a4⟩; exact ⟨a1, by omega, a3, a4⟩
theorem Raw.bi (h : Raw n root kd o vs g) (hk : ¬ kd = sCast) : ∀ k, k ≤ n → BI n root kd o vs k (begT g k)
  | 0, _ => ⟨h.tb, fun p hp => by show (mem g p).has = true ↔ _; rw [h.has p hp]; exact ⟨fun g => (by cases g), fun g => absurd g.2.1 (Nat.not_lt_zero _)⟩, fun p hp hh => (by have : (mem g p).has = true := hh; rw [h.has p hp] at this; cases this),
      by show FlyIs _ _ g.fly; rw [h.fly]; exact FlyIs.nil fun i g => Nat.not_lt_zero _ g.2.1, by show g.sent = wr ((g.fly.length : Nat) : Int); rw [h.sent, h.fly]; exact wr0.symm, by show g.fly.length ≤ 0; rw [h.fly]; exact Nat.le_refl _⟩
  | k + 1, hkn => BI.next hk hkn (Raw.bi h hk k (by omega))
theorem BI.ti (hk : ¬ kd = sCast) (h : BI n root kd o vs n g) : TI n root kd o vs 0 D0 g := by
  have hT := h.tb
  have hn := hT.hn
  have hr := hT.hr
  have hHs : ∀ q, Hs n root kd D0 q ↔ q = root ∧ root < n ∧ chP n root root = [] := fun q => by
    by_cases e : q = root
    · subst e; rw [Hs_root, comb0]; exact ⟨fun g => ⟨rfl, hr, g.resolve_left hk⟩, fun g => .inr g.2.2⟩
    · rw [Hs_ne e]; exact ⟨fun g => (by cases g), fun g => absurd g.1 e⟩
  refine hT.ti ⟨fun p hp => by rw [hHs]; exact h.has p hp, fun p hp hh => h.res p hp ((h.has p hp).2 ((hHs p).1 hh)), h.fly.congr ?_, fun i hi => (by cases hi), by rw [h.sent]; simp, by have := h.few; omega⟩
  rintro ⟨q, b⟩
  cases b
  · constructor
    · rintro ⟨⟨_, a2, a3, a4⟩, _⟩
      obtain ⟨b1, _, b3⟩ := (hHs _).1 a4
      have := (ch_par n hn root hr root hr q a2).2 ⟨a3, b1⟩
      rw [b3] at this; cases this
    · rintro ⟨a, _⟩; cases a
  · constructor
    · rintro ⟨⟨_, a2, a3, a4⟩, _⟩; exact ⟨rfl, a2, a3, comb0.1 a4⟩
    · rintro ⟨_, a2, a3, a4⟩; exact ⟨⟨hk, a2, a3, comb0.2 a4⟩, D0n _⟩
theorem Raw.good (h : Raw n root kd o vs g) (hs : ¬ kd = sScan) : Gd n root kd o vs 0 (beginG g) := by
  have hz : 0 = ((ids n root kd).filter D0).length := by rw [List.filter_eq_nil_iff.2 (fun a _ => D0n a)]; rfl
  unfold beginG
  by_cases hk : kd = sCast
  · rw [if_pos (h.tb.hkd.trans hk), h.tb.rt, h.tb.val root h.tb.hr]
    have : vs root = tot n root kd o vs := by unfold tot; rw [if_pos hk]
    rw [this]
    exact ⟨D0, h.cast hk, hz⟩
  · rw [if_neg (by rw [h.tb.hkd]; exact hk), if_neg (by rw [h.tb.hkd]; exact hs), h.tb.len]
    exact ⟨D0, (h.bi hk n (Nat.le_refl _)).ti hk, hz⟩
theorem TI.deliver (h : TI n root kd o vs t D g) (hs : ¬ kd = sScan) (k : Nat) : dlvG g k = dlvT g k := if_neg (by rw [h.hkd]; exact hs)
end
end Gr

/- The text G14. -/
set_option linter.unusedVariables false
set_option linter.unusedSimpArgs false
set_option maxRecDepth 10000
namespace Go.Proofs.Ytoikjjpleonllaa
open Go Go.KK Gr

theorem newG_good {L : List Asn} {va : Option Addr} {n cap : Nat} {k o : ByteArray} {root : Int} {vs : List Int} [SlIn intE L va vs] (hn : n = vs.length) (hs : vs.length ≤ 1000000) (hg : goodN k o root vs) :
    CallS Try.prog 10 [.string k, .string o, .int .i64 root, .slice va n cap].toArray L (fun v M => ∃ p am cm bs, v = .tuple #[.pointer (some ⟨p, 0, none⟩), .int .i64 0] ∧ M = GB p am cm bs (newG k o root vs) :: L) :=
  (newG_ok hn hs).mono fun v M h => ⟨M, (h.resolve_left fun g => g.1 hg).2, fun _ s => s⟩
theorem newG_bad {L : List Asn} {va : Option Addr} {n cap : Nat} {k o : ByteArray} {root : Int} {vs : List Int} [SlIn intE L va vs] (hn : n = vs.length) (hs : vs.length ≤ 1000000) (hg : ¬ goodN k o root vs) :
    CallS Try.prog 10 [.string k, .string o, .int .i64 root, .slice va n cap].toArray L (fun v M => v = .tuple #[.pointer none, .int .i64 2] ∧ M = L) :=
  (newG_ok hn hs).mono fun v M h => ⟨M, (h.resolve_right fun g => hg g.1).2, fun _ s => s⟩
/-- The values that a collective begins with. -/
def vsG (g : Gs) : Nat → Int := fun p => (mem g p).v
theorem mem_ms {g : Gs} {W : List Int} (hm : g.ms = ms0 W) {p : Nat} (hp : p < W.length) : mem g p = ⟨W.getD p 0, 0, [], false, 0⟩ := by
  unfold mem
  rw [hm, List.getD_eq_getElem?_getD]
  unfold ms0
  rw [List.getElem?_map, List.getElem?_eq_getElem hp, List.getD_eq_getElem?_getD, List.getElem?_eq_getElem hp]; rfl
def W0 (k : ByteArray) (vs : List Int) : List Int := if k = sBar then List.replicate vs.length 0 else vs
def o0 (k o : ByteArray) : ByteArray := if k = sBar then ⟨#[43]⟩ else o
theorem W0_len (k : ByteArray) (vs : List Int) : (W0 k vs).length = vs.length := by unfold W0; split <;> simp
theorem g0_ms (k o : ByteArray) (root : Int) (vs : List Int) : (g0 k o root vs).ms = ms0 (W0 k vs) ∧ (g0 k o root vs).op = o0 k o := by unfold g0 W0 o0; split <;> exact ⟨rfl, rfl⟩
def vs0 (k : ByteArray) (vs : List Int) : Nat → Int := fun p => (W0 k vs).getD p 0
theorem raw_g0 {k o : ByteArray} {r : Nat} {vs : List Int} (h1 : 1 ≤ vs.length) (h8 : vs.length ≤ 8) (hr : r < vs.length) : Raw vs.length r k (o0 k o) (vs0 k vs) (g0 k o (r : Int) vs) := by
  obtain ⟨a1, a2, a3, a4⟩ := g0_kind k o (r : Int) vs
  obtain ⟨b1, b2⟩ := g0_ms k o (r : Int) vs
  have hm := fun {p : Nat} (hp : p < vs.length) => mem_ms b1 (p := p) (by rw [W0_len]; exact hp)
  refine ⟨⟨by omega, hr, g0_len _ _ _ _, a1, a2, b2, wf_g0 h1 h8, fun p hp => by rw [hm hp]; rfl, fun p hp c hc => ?_, fun p hp => ?_⟩, fun p hp => by rw [hm hp], a3, a4⟩
  · rw [hm hp, if_neg (by unfold D0; simp)]; rfl
  · rw [hm hp]
    rw [List.filter_eq_nil_iff.2 (fun a _ => D0n (a, true))]; rfl
theorem good_new {k o : ByteArray} {r : Nat} {vs : List Int} (h1 : 1 ≤ vs.length) (h8 : vs.length ≤ 8) (hr : r < vs.length) (hs : ¬ k = sScan) : Gd vs.length r k (o0 k o) (vs0 k vs) 0 (newG k o (r : Int) vs) := (raw_g0 h1 h8 hr).good hs
/-- What the calls need. -/
theorem Gd.use {n root : Nat} {kd o : ByteArray} {vs : Nat → Int} {t : Nat} {g : Gs} (h : Gd n root kd o vs t g) (ho : okOp o) : wf g ∧ g.ms.length = n ∧ g.fly.length ≤ 72 ∧ okOp g.op ∧ g.kind = kd ∧ g.root = (root : Int) ∧ (0 ≤ g.root ∧ g.root < (g.ms.length : Int)) ∧ t ≤ 14 := by
  have h1 := h.le
  obtain ⟨D, hT, ht⟩ := h
  have h2 := all_le (kd := kd) hT.hn hT.hr
  have h3 := hT.few
  have h4 := hT.hr
  refine ⟨hT.hwf, hT.len, by omega, by rw [hT.hop]; exact ho, hT.hkd, hT.hroot, by rw [hT.hroot, hT.len]; omega, by omega⟩
theorem Gd.dlv {n root : Nat} {kd o : ByteArray} {vs : Nat → Int} {t : Nat} {g : Gs} (h : Gd n root kd o vs t g) (hs : ¬ kd = sScan) {k : Nat} (hk : k < g.fly.length) : Gd n root kd o vs (t + 1) (dlvG g k) := by
  have h1 := h.step hk
  obtain ⟨D, hT, ht⟩ := h
  rw [hT.deliver hs]; exact h1
theorem sub_zero (n root : Nat) (vs : Nat → Int) (hz : ∀ p, vs p = 0) : ∀ f c, subF n root ⟨#[43]⟩ vs f c = 0
  | 0, c => hz c
  | f + 1, c => by
    show (chP n root c).foldl (fun a x => opV ⟨#[43]⟩ a (subF n root ⟨#[43]⟩ vs f x)) (vs c) = 0
    rw [hz c]
    have : ∀ l : List Nat, l.foldl (fun a x => opV ⟨#[43]⟩ a (subF n root ⟨#[43]⟩ vs f x)) 0 = 0 := by
      intro l
      induction l with
      | nil => rfl
      | cons x l ih =>
        rw [List.foldl_cons, sub_zero n root vs hz f x]
        have e : opV ⟨#[43]⟩ 0 0 = 0 := by decide
        rw [e]; exact ih
    exact this _
theorem tot_bar (n root : Nat) (o : ByteArray) (vs : List Int) : tot n root sBar (o0 sBar o) (vs0 sBar vs) = 0 := by
  unfold tot
  rw [if_neg (by decide)]
  have e : o0 sBar o = ⟨#[43]⟩ := if_pos rfl
  rw [e]
  unfold sub
  refine sub_zero n root _ (fun p => ?_) n root
  unfold vs0 W0
  rw [if_pos rfl, List.getD_eq_getElem?_getD, List.getElem?_replicate]
  split <;> rfl
theorem all_bar {n root : Nat} (hn : n < 9) (hr : root < n) {kd : ByteArray} (h1 : ¬ kd = sCast) (h2 : ¬ kd = sRed) : (all_ n root kd : Int) = 2 * ((n : Int) - 1) := by
  have := base_len n hn root hr
  unfold all_ ids
  rw [if_neg h1, if_neg h2, List.length_append, List.length_map, List.length_map]; omega
theorem res_none {g : Gs} {q : Nat} (hq : q < g.ms.length) (hk : ¬ g.kind = sRed) (hh : ¬ (mem g q).has = true) : resV g (q : Int) = (0, 171) := by
  unfold resV
  rw [if_neg (by rintro (h | h | h) <;> first | omega | exact hk h.1), Int.toNat_natCast, if_neg hh]
theorem res_some {g : Gs} {q : Nat} (hq : q < g.ms.length) (hk : ¬ g.kind = sRed) (hh : (mem g q).has = true) : resV g (q : Int) = ((mem g q).res, 0) := by
  unfold resV
  rw [if_neg (by rintro (h | h | h) <;> first | omega | exact hk h.1), Int.toNat_natCast, if_pos hh]
theorem bar_ok {m : Nat} {root : Int} (h1 : 1 ≤ m) (h8 : m ≤ 8) (h : 0 ≤ root ∧ root < (m : Int)) : goodN sBar ⟨#[43]⟩ root (List.replicate m 0) := by
  refine ⟨⟨by decide, by decide, by rw [List.length_replicate]; exact ⟨h1, h8⟩, fun _ => by rw [List.length_replicate]; exact h⟩, fun g => ?_⟩
  exact absurd g.1 (by decide)
theorem bar_no {m : Nat} {root : Int} (h : ¬ (1 ≤ m ∧ m ≤ 8)) : ¬ goodN sBar ⟨#[43]⟩ root (List.replicate m 0) := fun g => h (by have := g.1.2.2.1; rwa [List.length_replicate] at this)
theorem lawBarrier {L : List Asn} {la : Option Addr} {ln lc : Nat} {l : List Int} {n z : Int} [SlIn intE L la l] (hll : ln = l.length) :
    CallS Try.prog 4 [.int .i64 n, .int .i64 z, .slice la ln lc].toArray L (fun v M => v = .bool true ∧ M = L) := by
  subst hll
  refine CallS.ent ?_
  refine CallS.enter Try.func4 rfl rfl rfl rfl rfl ?_
  refine J.seq rfl ?_
  refine J.region rfl ?_
  refine JO.pur rfl rfl rfl (Pur.assign rfl) ?_
  refine JO.nil ?_
  refine J.seq rfl ?_
  refine J.seq rfl ?_
  refine J.region rfl ?_
  refine JO.pur rfl rfl rfl (Pur.move rfl) ?_
  refine JO.pur rfl rfl rfl (Pur.lss rfl rfl) ?_
  refine JO.pur rfl rfl rfl (Pur.move rfl) ?_
  refine JO.splitB 21 rfl (fun h21 => ?_) (fun h21 => ?_)
  · try simp only [decide_eq_true_eq, decide_eq_false_iff_not, Bool.not_eq_true', Bool.not_eq_false', Bool.and_eq_true, Bool.or_eq_true, Bool.and_eq_false_iff, Bool.or_eq_false_iff, Option.isNone_some, Option.isSome_some, Option.isNone_none, Option.isSome_none, Int.not_lt, Int.not_le, beq_iff_eq, beq_eq_false_iff_ne, bne_iff_ne, ne_eq, Bool.not_not, Decidable.not_not] at h21
    refine JO.no rfl rfl rfl ?_
    refine JO.no rfl rfl rfl ?_
    refine JO.pur rfl rfl rfl (Pur.pickT rfl rfl) ?_
    refine JO.nil ?_
    refine J.condT rfl rfl ?_
    refine J.seq rfl ?_
    refine J.region rfl ?_
    refine JO.pur rfl rfl rfl (Pur.move rfl) ?_
    refine JO.pur rfl rfl rfl (Pur.move rfl) ?_
    refine JO.pur rfl rfl rfl (Pur.min2 rfl rfl) ?_
    refine JO.setv (u' := .int .i64 (min n 9)) 28 rfl rfl ?_
    refine JO.pur rfl rfl rfl (Pur.max2 rfl rfl) ?_
    obtain ⟨m, hm⟩ : ∃ m : Nat, (m : Int) = max 0 (min n 9) := ⟨(max 0 (min n 9)).toNat, by omega⟩
    have hmb : ¬ (1 ≤ m ∧ m ≤ 8) := by omega
    refine JO.setv (u' := .int .i64 (m : Int)) 29 rfl (congrArg (Value.int .i64) (by omega)) ?_
    refine JO.eff rfl rfl rfl (Eff.make intE 0 rfl rfl rfl rfl rfl (by decide) (by omega) (by omega)) ?_
    rintro _ _ ⟨b30, rfl, rfl⟩
    refine JO.eff rfl rfl rfl (Eff.call rfl (newG_bad (vs := List.replicate m 0) (by simp) (by simp; omega) (bar_no hmb))) ?_
    rintro _ _ ⟨rfl, rfl⟩
    refine JO.pur rfl rfl rfl (Pur.move rfl) ?_
    refine JO.pur rfl rfl rfl (Pur.extract rfl rfl) ?_
    refine JO.pur rfl rfl rfl (Pur.extract rfl rfl) ?_
    refine JO.pur rfl rfl rfl (Pur.assign rfl) ?_
    refine JO.pur rfl rfl rfl (Pur.assign rfl) ?_
    refine JO.nil ?_
    refine J.seq rfl ?_
    refine J.region rfl ?_
    refine JO.pur rfl rfl rfl (Pur.move rfl) ?_
    refine JO.pur rfl rfl rfl (Pur.eqlPtrNil rfl) ?_
    refine JO.pur rfl rfl rfl (Pur.move rfl) ?_
    refine JO.setv (u' := .bool true) 36 rfl (congrArg Value.bool (rfl)) ?_
    refine JO.pur rfl rfl rfl (Pur.move rfl) ?_
    refine JO.pur rfl rfl rfl (Pur.eqlI rfl rfl) ?_
    refine JO.pur rfl rfl rfl (Pur.pickT rfl rfl) ?_
    refine JO.pur rfl rfl rfl (Pur.move rfl) ?_
    refine JO.setv (u' := .bool true) 40 rfl (congrArg Value.bool (decide_eq_true rfl)) ?_
    refine JO.effR rfl rfl rfl (Eff.call rfl (awake_ok)) ?_
    refine JO.pur rfl rfl rfl (Pur.pickT rfl rfl) ?_
    refine JO.pur rfl rfl rfl (Pur.assign rfl) ?_
    refine JO.nil ?_
    refine J.ret rfl rfl ?_
    refine ⟨_, _, ⟨rfl, rfl⟩, rfl, SubC.out⟩
  · try simp only [decide_eq_true_eq, decide_eq_false_iff_not, Bool.not_eq_true', Bool.not_eq_false', Bool.and_eq_true, Bool.or_eq_true, Bool.and_eq_false_iff, Bool.or_eq_false_iff, Option.isNone_some, Option.isSome_some, Option.isNone_none, Option.isSome_none, Int.not_lt, Int.not_le, beq_iff_eq, beq_eq_false_iff_ne, bne_iff_ne, ne_eq, Bool.not_not, Decidable.not_not] at h21
    refine JO.pur rfl rfl rfl (Pur.move rfl) ?_
    refine JO.pur rfl rfl rfl (Pur.gtr rfl rfl) ?_
    refine JO.pur rfl rfl rfl (Pur.pickF rfl rfl) ?_
    refine JO.nil ?_
    refine J.splitB 24 rfl (fun h24 => ?_) (fun h24 => ?_)
    · try simp only [decide_eq_true_eq, decide_eq_false_iff_not, Bool.not_eq_true', Bool.not_eq_false', Bool.and_eq_true, Bool.or_eq_true, Bool.and_eq_false_iff, Bool.or_eq_false_iff, Option.isNone_some, Option.isSome_some, Option.isNone_none, Option.isSome_none, Int.not_lt, Int.not_le, beq_iff_eq, beq_eq_false_iff_ne, bne_iff_ne, ne_eq, Bool.not_not, Decidable.not_not] at h24
      refine J.condT rfl rfl ?_
      refine J.seq rfl ?_
      refine J.region rfl ?_
      refine JO.pur rfl rfl rfl (Pur.move rfl) ?_
      refine JO.pur rfl rfl rfl (Pur.move rfl) ?_
      refine JO.pur rfl rfl rfl (Pur.min2 rfl rfl) ?_
      refine JO.setv (u' := .int .i64 (min n 9)) 28 rfl rfl ?_
      refine JO.pur rfl rfl rfl (Pur.max2 rfl rfl) ?_
      obtain ⟨m, hm⟩ : ∃ m : Nat, (m : Int) = max 0 (min n 9) := ⟨(max 0 (min n 9)).toNat, by omega⟩
      have hmb : ¬ (1 ≤ m ∧ m ≤ 8) := by omega
      refine JO.setv (u' := .int .i64 (m : Int)) 29 rfl (congrArg (Value.int .i64) (by omega)) ?_
      refine JO.eff rfl rfl rfl (Eff.make intE 0 rfl rfl rfl rfl rfl (by decide) (by omega) (by omega)) ?_
      rintro _ _ ⟨b30, rfl, rfl⟩
      refine JO.eff rfl rfl rfl (Eff.call rfl (newG_bad (vs := List.replicate m 0) (by simp) (by simp; omega) (bar_no hmb))) ?_
      rintro _ _ ⟨rfl, rfl⟩
      refine JO.pur rfl rfl rfl (Pur.move rfl) ?_
      refine JO.pur rfl rfl rfl (Pur.extract rfl rfl) ?_
      refine JO.pur rfl rfl rfl (Pur.extract rfl rfl) ?_
      refine JO.pur rfl rfl rfl (Pur.assign rfl) ?_
      refine JO.pur rfl rfl rfl (Pur.assign rfl) ?_
      refine JO.nil ?_
      refine J.seq rfl ?_
      refine J.region rfl ?_
      refine JO.pur rfl rfl rfl (Pur.move rfl) ?_
      refine JO.pur rfl rfl rfl (Pur.eqlPtrNil rfl) ?_
      refine JO.pur rfl rfl rfl (Pur.move rfl) ?_
      refine JO.setv (u' := .bool true) 36 rfl (congrArg Value.bool (rfl)) ?_
      refine JO.pur rfl rfl rfl (Pur.move rfl) ?_
      refine JO.pur rfl rfl rfl (Pur.eqlI rfl rfl) ?_
      refine JO.pur rfl rfl rfl (Pur.pickT rfl rfl) ?_
      refine JO.pur rfl rfl rfl (Pur.move rfl) ?_
      refine JO.setv (u' := .bool true) 40 rfl (congrArg Value.bool (decide_eq_true rfl)) ?_
      refine JO.effR rfl rfl rfl (Eff.call rfl (awake_ok)) ?_
      refine JO.pur rfl rfl rfl (Pur.pickT rfl rfl) ?_
      refine JO.pur rfl rfl rfl (Pur.assign rfl) ?_
      refine JO.nil ?_
      refine J.ret rfl rfl ?_
      refine ⟨_, _, ⟨rfl, rfl⟩, rfl, SubC.out⟩
    · try simp only [decide_eq_true_eq, decide_eq_false_iff_not, Bool.not_eq_true', Bool.not_eq_false', Bool.and_eq_true, Bool.or_eq_true, Bool.and_eq_false_iff, Bool.or_eq_false_iff, Option.isNone_some, Option.isSome_some, Option.isNone_none, Option.isSome_none, Int.not_lt, Int.not_le, beq_iff_eq, beq_eq_false_iff_ne, bne_iff_ne, ne_eq, Bool.not_not, Decidable.not_not] at h24
      obtain ⟨n, rfl⟩ : ∃ n' : Nat, n = (n' : Int) := ⟨n.toNat, by omega⟩
      refine J.condF rfl rfl ?_
      refine J.skip rfl ?_
      refine J.seq rfl ?_
      refine J.region rfl ?_
      refine JO.pur rfl rfl rfl (Pur.move rfl) ?_
      refine JO.pur rfl rfl rfl (Pur.move rfl) ?_
      refine JO.eff rfl rfl rfl (Eff.call rfl (mod_ok (z := z) (n := (n : Int)) (by omega) (by omega))) ?_
      rintro _ _ ⟨r, hrn, rfl, rfl⟩
      refine JO.pur rfl rfl rfl (Pur.assign rfl) ?_
      refine JO.nil ?_
      refine J.seq rfl ?_
      refine J.region rfl ?_
      refine JO.pur rfl rfl rfl (Pur.move rfl) ?_
      refine JO.pur rfl rfl rfl (Pur.move rfl) ?_
      refine JO.eff rfl rfl rfl (Eff.make intE 0 rfl rfl rfl rfl rfl (by decide) (by omega) (by omega)) ?_
      rintro _ _ ⟨b49, rfl, rfl⟩
      refine JO.eff rfl rfl rfl (Eff.call rfl (newG_good (k := sBar) (vs := List.replicate n 0) (by simp) (by simp; omega) (bar_ok (by omega) (by omega) (by omega)))) ?_
      rintro _ _ ⟨p, am, cm, bs, rfl, rfl⟩
      refine JO.pur rfl rfl rfl (Pur.move rfl) ?_
      refine JO.pur rfl rfl rfl (Pur.extract rfl rfl) ?_
      refine JO.pur rfl rfl rfl (Pur.extract rfl rfl) ?_
      refine JO.pur rfl rfl rfl (Pur.assign rfl) ?_
      refine JO.pur rfl rfl rfl (Pur.assign rfl) ?_
      refine JO.nil ?_
      refine J.seq rfl ?_
      refine J.seq rfl ?_
      refine J.region rfl ?_
      refine JO.pur rfl rfl rfl (Pur.move rfl) ?_
      refine JO.pur rfl rfl rfl (Pur.neqI rfl rfl) ?_
      refine JO.nil ?_
      refine J.setv (u' := .bool false) 54 rfl (congrArg Value.bool (decide_eq_false (fun h => h rfl))) ?_
      refine J.condF rfl rfl ?_
      refine J.skip rfl ?_
      refine J.seq rfl ?_
      refine J.seq rfl ?_
      refine J.region rfl ?_
      refine JO.pur rfl rfl rfl (Pur.assign rfl) ?_
      refine JO.nil ?_
      refine J.block rfl ?_
      have hG0 := good_new (k := sBar) (o := ⟨#[43]⟩) (r := r) (vs := List.replicate n 0) (by simp; omega) (by simp; omega) (by simp; omega) (by decide)
      rw [List.length_replicate] at hG0
      refine J.loopF (ι := Nat × Gs) (fun q => Gd n r sBar ⟨#[43]⟩ (vs0 sBar (List.replicate n 0)) q.1 q.2) (fun q => [(11, .int .i64 (q.1 : Int))]) [(0, _), (2, _), (9, _)] (fun q => GB p am cm bs q.2 :: L) (fun q => (all_ n r sBar) - q.1) (0, newG sBar ⟨#[43]⟩ (r : Int) (List.replicate n 0)) rfl (.cons rfl rfl (.cons rfl rfl (.cons rfl rfl .nil))) (.cons rfl rfl .nil) (by first | exact fun _ h => h | exact SubC.out | (dsimp only; exact SubC.out)) hG0 ?_
      rintro ⟨t, X⟩ hG iht
      try dsimp only
      have hG : Gd n r sBar ⟨#[43]⟩ (vs0 sBar (List.replicate n 0)) t X := hG
      obtain ⟨u1, u2, u3, u4, u5, u6, u7, u8⟩ := Gd.use hG (.inl rfl)
      have hGle := hG.le
      refine J.seq rfl ?_
      refine J.seq rfl ?_
      refine J.region rfl ?_
      refine JO.pur rfl rfl rfl (Pur.move rfl) ?_
      refine JO.effR rfl rfl rfl (Eff.call rfl (over_ok (g := X) u1)) ?_
      refine JO.pur rfl rfl rfl (Pur.not rfl) ?_
      refine JO.nil ?_
      refine J.splitB 57 rfl (fun h57 => ?_) (fun h57 => ?_)
      · try simp only [decide_eq_true_eq, decide_eq_false_iff_not, Bool.not_eq_true', Bool.not_eq_false', Bool.and_eq_true, Bool.or_eq_true, Bool.and_eq_false_iff, Bool.or_eq_false_iff, Option.isNone_some, Option.isSome_some, Option.isNone_none, Option.isSome_none, Int.not_lt, Int.not_le, beq_iff_eq, beq_eq_false_iff_ne, bne_iff_ne, ne_eq, Bool.not_not, Decidable.not_not] at h57
        refine J.condT rfl rfl ?_
        refine J.skip rfl ?_
        refine J.seq rfl ?_
        refine J.block rfl ?_
        refine J.seq rfl ?_
        refine J.seq rfl ?_
        refine J.region rfl ?_
        refine JO.pur rfl rfl rfl (Pur.assign rfl) ?_
        refine JO.nil ?_
        refine J.block rfl ?_
        refine J.loopF (ι := Nat) (fun w => w ≤ n) (fun w => [(12, .int .i64 (w : Int))]) [(0, _), (2, _), (9, _), (11, _)] (fun w => GB p am cm bs X :: L) (fun w => n - w) 0 rfl (.cons rfl rfl (.cons rfl rfl (.cons rfl rfl (.cons rfl rfl .nil)))) (.cons rfl rfl .nil) (by first | exact fun _ h => h | exact SubC.out | (dsimp only; exact SubC.out)) (Nat.zero_le _) ?_
        rintro w hw ihw
        try dsimp only
        refine J.seq rfl ?_
        refine J.seq rfl ?_
        refine J.region rfl ?_
        refine JO.pur rfl rfl rfl (Pur.move rfl) ?_
        refine JO.pur rfl rfl rfl (Pur.move rfl) ?_
        refine JO.pur rfl rfl rfl (Pur.lss rfl rfl) ?_
        refine JO.pur rfl rfl rfl (Pur.move rfl) ?_
        refine JO.splitB 63 rfl (fun h63 => ?_) (fun h63 => ?_)
        · try simp only [decide_eq_true_eq, decide_eq_false_iff_not, Bool.not_eq_true', Bool.not_eq_false', Bool.and_eq_true, Bool.or_eq_true, Bool.and_eq_false_iff, Bool.or_eq_false_iff, Option.isNone_some, Option.isSome_some, Option.isNone_none, Option.isSome_none, Int.not_lt, Int.not_le, beq_iff_eq, beq_eq_false_iff_ne, bne_iff_ne, ne_eq, Bool.not_not, Decidable.not_not] at h63
          refine JO.pur rfl rfl rfl (Pur.move rfl) ?_
          refine JO.pur rfl rfl rfl (Pur.move rfl) ?_
          refine JO.pur rfl rfl rfl (Pur.sub rfl rfl (wr64 (by omega))) ?_
          refine JO.pur rfl rfl rfl (Pur.lss rfl rfl) ?_
          refine JO.pur rfl rfl rfl (Pur.pickT rfl rfl) ?_
          refine JO.nil ?_
          refine J.splitB 68 rfl (fun h68 => ?_) (fun h68 => ?_)
          · try simp only [decide_eq_true_eq, decide_eq_false_iff_not, Bool.not_eq_true', Bool.not_eq_false', Bool.and_eq_true, Bool.or_eq_true, Bool.and_eq_false_iff, Bool.or_eq_false_iff, Option.isNone_some, Option.isSome_some, Option.isNone_none, Option.isSome_none, Int.not_lt, Int.not_le, beq_iff_eq, beq_eq_false_iff_ne, bne_iff_ne, ne_eq, Bool.not_not, Decidable.not_not] at h68
            have hhn : ¬ (mem X w).has = true := fun g => by have := hG.late (by decide) (p := w) (by omega) g; omega
            have hrv := res_none (g := X) (q := w) (by omega) (by rw [u5]; decide) hhn
            refine J.condT rfl rfl ?_
            refine J.skip rfl ?_
            refine J.seq rfl ?_
            refine J.block rfl ?_
            refine J.seq rfl ?_
            refine J.region rfl ?_
            refine JO.pur rfl rfl rfl (Pur.move rfl) ?_
            refine JO.pur rfl rfl rfl (Pur.move rfl) ?_
            refine JO.effR rfl rfl rfl (Eff.call rfl (result_ok (g := X) (q := (w : Int)) u1)) ?_
            rw [hrv]
            refine JO.pur rfl rfl rfl (Pur.move rfl) ?_
            refine JO.pur rfl rfl rfl (Pur.extract rfl rfl) ?_
            refine JO.pur rfl rfl rfl (Pur.extract rfl rfl) ?_
            refine JO.pur rfl rfl rfl (Pur.assign rfl) ?_
            refine JO.pur rfl rfl rfl (Pur.assign rfl) ?_
            refine JO.nil ?_
            refine J.seq rfl ?_
            refine J.region rfl ?_
            refine JO.pur rfl rfl rfl (Pur.move rfl) ?_
            refine JO.pur rfl rfl rfl (Pur.neqI rfl rfl) ?_
            refine JO.nil ?_
            refine J.setv (u' := .bool false) 78 rfl (congrArg Value.bool (decide_eq_false (fun h => h rfl))) ?_
            refine J.condF rfl rfl ?_
            refine J.skip rfl ?_
            refine J.inBlock ?_
            refine J.region rfl ?_
            refine JO.pur rfl rfl rfl (Pur.move rfl) ?_
            refine JO.pur rfl rfl rfl (Pur.add rfl rfl (wr64 (by omega))) ?_
            refine JO.pur rfl rfl rfl (Pur.assign rfl) ?_
            refine JO.nil ?_
            exact J.weaken (.cons rfl (congrArg (Value.int .i64) (by first | rfl | (dsimp only; omega))) (.cons rfl rfl (.cons rfl rfl (.cons rfl rfl (.cons rfl rfl .nil))))) (by first | exact fun _ h => h | exact SubC.out | (dsimp only; exact SubC.out)) (ihw (w + 1) (by omega) (by omega))
          · try simp only [decide_eq_true_eq, decide_eq_false_iff_not, Bool.not_eq_true', Bool.not_eq_false', Bool.and_eq_true, Bool.or_eq_true, Bool.and_eq_false_iff, Bool.or_eq_false_iff, Option.isNone_some, Option.isSome_some, Option.isNone_none, Option.isSome_none, Int.not_lt, Int.not_le, beq_iff_eq, beq_eq_false_iff_ne, bne_iff_ne, ne_eq, Bool.not_not, Decidable.not_not] at h68
            refine J.condF rfl rfl ?_
            refine J.exit rfl rfl ?_
            refine J.seq rfl ?_
            refine J.region rfl ?_
            refine JO.pur rfl rfl rfl (Pur.assign rfl) ?_
            refine JO.nil ?_
            refine J.seq rfl ?_
            refine J.seq rfl ?_
            refine J.region rfl ?_
            refine JO.pur rfl rfl rfl (Pur.move rfl) ?_
            refine JO.pur rfl rfl rfl (Pur.move rfl) ?_
            refine JO.pur rfl rfl rfl (Pur.len rfl) ?_
            refine JO.pur rfl rfl rfl (Pur.lss rfl rfl) ?_
            refine JO.nil ?_
            refine J.splitB 82 rfl (fun h82 => ?_) (fun h82 => ?_)
            · try simp only [decide_eq_true_eq, decide_eq_false_iff_not, Bool.not_eq_true', Bool.not_eq_false', Bool.and_eq_true, Bool.or_eq_true, Bool.and_eq_false_iff, Bool.or_eq_false_iff, Option.isNone_some, Option.isSome_some, Option.isNone_none, Option.isSome_none, Int.not_lt, Int.not_le, beq_iff_eq, beq_eq_false_iff_ne, bne_iff_ne, ne_eq, Bool.not_not, Decidable.not_not] at h82
              obtain ⟨x, hX⟩ : ∃ x, l[t]? = some x := ⟨_, List.getElem?_eq_getElem (by omega)⟩
              refine J.condT rfl rfl ?_
              refine J.mask0 (n := 9) [7] rfl Try.mixed rfl (by kernel_rfl) ?_
              refine JM.take 0 (fun _ h => h) rfl (by kernel_rfl) rfl rfl rfl (m' := 1) rfl (Pur.move rfl) ?_
              refine JM.take 1 (fun _ h => h) rfl (by kernel_rfl) rfl rfl rfl (m' := 3) rfl (Pur.move rfl) ?_
              refine JM.take 2 (fun _ h => h) rfl (by kernel_rfl) rfl rfl rfl (m' := 7) rfl (Pur.idx rfl rfl rfl (by first | rfl | (simp; done) | omega) rfl (by omega)) ?_
              refine JM.take 3 (fun _ h => h) rfl (by kernel_rfl) rfl rfl rfl (m' := 15) rfl (Pur.load rfl (CellIn.el0 rfl hX rfl)) ?_
              refine JM.setv (u' := .int .i64 x) 86 rfl rfl ?_
              refine JM.take 4 (fun _ h => h) rfl (by kernel_rfl) rfl rfl rfl (m' := 31) rfl (Pur.move rfl) ?_
              refine JM.one (i := 5) (by kernel_rfl) ?_
              refine JMi.eff rfl rfl rfl rfl (m' := 63) rfl (Eff.call rfl (flying_ok (g := X) u1 (by omega))) ?_
              rintro _ _ ⟨a88, c88, rfl, rfl⟩
              refine ⟨.inr (fun _ h => h.tail), ?_⟩
              refine JM.take 6 (fun _ h => h.tail) rfl (by kernel_rfl) rfl rfl rfl (m' := 127) rfl (Pur.len rfl) ?_
              refine JM.one (i := 7) (by kernel_rfl) ?_
              refine JMi.eff rfl rfl rfl rfl (m' := 255) rfl (Eff.call rfl (mod_ok (z := x) (n := (X.fly.length : Int)) (by omega) (by omega))) ?_
              rintro _ _ ⟨kk, hkk, rfl, rfl⟩
              refine ⟨.inl (by simp), ?_⟩
              refine JM.takeF 8 (.inl (by kernel_rfl)) rfl (by kernel_rfl) rfl rfl rfl (m' := 511) rfl (Pur.assign rfl) ?_
              refine JM.done rfl ?_
              refine J.seq rfl ?_
              refine J.region rfl ?_
              refine JO.pur rfl rfl rfl (Pur.move rfl) ?_
              refine JO.pur rfl rfl rfl (Pur.gtr rfl rfl) ?_
              refine JO.pur rfl rfl rfl (Pur.move rfl) ?_
              refine JO.setv (u' := .bool false) 93 rfl (congrArg Value.bool (decide_eq_false (by omega))) ?_
              refine JO.pur rfl rfl rfl (Pur.move rfl) ?_
              refine JO.pur rfl rfl rfl (Pur.move rfl) ?_
              refine JO.imp (M := GB p am cm bs X :: L) (fun h s => SubC.out h s) ?_
              have hG2 := Gd.dlv hG (by decide) (k := kk) (by omega)
              refine JO.eff rfl rfl rfl (Eff.call rfl (deliverG_ok (g := X) (k := kk) u1 (by omega) (fun _ => u7) u4 (by omega))) ?_
              rintro _ _ ⟨rfl, rfl⟩
              refine JO.pur rfl rfl rfl (Pur.neqI rfl rfl) ?_
              refine JO.pur rfl rfl rfl (Pur.pickF rfl rfl) ?_
              refine JO.nil ?_
              refine J.setv (u' := .bool false) 98 rfl (congrArg Value.bool (decide_eq_false (fun h => h rfl))) ?_
              refine J.condF rfl rfl ?_
              refine J.skip rfl ?_
              refine J.inBlock ?_
              refine J.region rfl ?_
              refine JO.pur rfl rfl rfl (Pur.move rfl) ?_
              refine JO.pur rfl rfl rfl (Pur.add rfl rfl (wr64 (by omega))) ?_
              refine JO.pur rfl rfl rfl (Pur.assign rfl) ?_
              refine JO.nil ?_
              exact J.weaken (.cons rfl (congrArg (Value.int .i64) (by first | rfl | (dsimp only; omega))) (.cons rfl rfl (.cons rfl rfl (.cons rfl rfl .nil)))) (fun h s => by dsimp only; exact SubC.out h s) (iht (t + 1, dlvG X kk) hG2 (by have := hG2.le; dsimp only; omega))
            · try simp only [decide_eq_true_eq, decide_eq_false_iff_not, Bool.not_eq_true', Bool.not_eq_false', Bool.and_eq_true, Bool.or_eq_true, Bool.and_eq_false_iff, Bool.or_eq_false_iff, Option.isNone_some, Option.isSome_some, Option.isNone_none, Option.isSome_none, Int.not_lt, Int.not_le, beq_iff_eq, beq_eq_false_iff_ne, bne_iff_ne, ne_eq, Bool.not_not, Decidable.not_not] at h82
              obtain ⟨kk, hkk0⟩ : ∃ kk : Nat, kk = 0 := ⟨_, rfl⟩
              have hkk : (kk : Int) < (X.fly.length : Int) := by omega
              refine J.setv (u' := .int .i64 (kk : Int)) 15 rfl (by rw [hkk0]; rfl) ?_
              refine J.condF rfl rfl ?_
              refine J.skip rfl ?_
              refine J.seq rfl ?_
              refine J.region rfl ?_
              refine JO.pur rfl rfl rfl (Pur.move rfl) ?_
              refine JO.pur rfl rfl rfl (Pur.gtr rfl rfl) ?_
              refine JO.pur rfl rfl rfl (Pur.move rfl) ?_
              refine JO.setv (u' := .bool false) 93 rfl (congrArg Value.bool (decide_eq_false (by omega))) ?_
              refine JO.pur rfl rfl rfl (Pur.move rfl) ?_
              refine JO.pur rfl rfl rfl (Pur.move rfl) ?_
              refine JO.imp (M := GB p am cm bs X :: L) (fun h s => SubC.out h s) ?_
              have hG2 := Gd.dlv hG (by decide) (k := kk) (by omega)
              refine JO.eff rfl rfl rfl (Eff.call rfl (deliverG_ok (g := X) (k := kk) u1 (by omega) (fun _ => u7) u4 (by omega))) ?_
              rintro _ _ ⟨rfl, rfl⟩
              refine JO.pur rfl rfl rfl (Pur.neqI rfl rfl) ?_
              refine JO.pur rfl rfl rfl (Pur.pickF rfl rfl) ?_
              refine JO.nil ?_
              refine J.setv (u' := .bool false) 98 rfl (congrArg Value.bool (decide_eq_false (fun h => h rfl))) ?_
              refine J.condF rfl rfl ?_
              refine J.skip rfl ?_
              refine J.inBlock ?_
              refine J.region rfl ?_
              refine JO.pur rfl rfl rfl (Pur.move rfl) ?_
              refine JO.pur rfl rfl rfl (Pur.add rfl rfl (wr64 (by omega))) ?_
              refine JO.pur rfl rfl rfl (Pur.assign rfl) ?_
              refine JO.nil ?_
              exact J.weaken (.cons rfl (congrArg (Value.int .i64) (by first | rfl | (dsimp only; omega))) (.cons rfl rfl (.cons rfl rfl (.cons rfl rfl .nil)))) (fun h s => by dsimp only; exact SubC.out h s) (iht (t + 1, dlvG X kk) hG2 (by have := hG2.le; dsimp only; omega))
        · try simp only [decide_eq_true_eq, decide_eq_false_iff_not, Bool.not_eq_true', Bool.not_eq_false', Bool.and_eq_true, Bool.or_eq_true, Bool.and_eq_false_iff, Bool.or_eq_false_iff, Option.isNone_some, Option.isSome_some, Option.isNone_none, Option.isSome_none, Int.not_lt, Int.not_le, beq_iff_eq, beq_eq_false_iff_ne, bne_iff_ne, ne_eq, Bool.not_not, Decidable.not_not] at h63
          refine JO.no rfl rfl rfl ?_
          refine JO.no rfl rfl rfl ?_
          refine JO.no rfl rfl rfl ?_
          refine JO.no rfl rfl rfl ?_
          refine JO.pur rfl rfl rfl (Pur.pickF rfl rfl) ?_
          refine JO.nil ?_
          refine J.condF rfl rfl ?_
          refine J.exit rfl rfl ?_
          refine J.seq rfl ?_
          refine J.region rfl ?_
          refine JO.pur rfl rfl rfl (Pur.assign rfl) ?_
          refine JO.nil ?_
          refine J.seq rfl ?_
          refine J.seq rfl ?_
          refine J.region rfl ?_
          refine JO.pur rfl rfl rfl (Pur.move rfl) ?_
          refine JO.pur rfl rfl rfl (Pur.move rfl) ?_
          refine JO.pur rfl rfl rfl (Pur.len rfl) ?_
          refine JO.pur rfl rfl rfl (Pur.lss rfl rfl) ?_
          refine JO.nil ?_
          refine J.splitB 82 rfl (fun h82 => ?_) (fun h82 => ?_)
          · try simp only [decide_eq_true_eq, decide_eq_false_iff_not, Bool.not_eq_true', Bool.not_eq_false', Bool.and_eq_true, Bool.or_eq_true, Bool.and_eq_false_iff, Bool.or_eq_false_iff, Option.isNone_some, Option.isSome_some, Option.isNone_none, Option.isSome_none, Int.not_lt, Int.not_le, beq_iff_eq, beq_eq_false_iff_ne, bne_iff_ne, ne_eq, Bool.not_not, Decidable.not_not] at h82
            obtain ⟨x, hX⟩ : ∃ x, l[t]? = some x := ⟨_, List.getElem?_eq_getElem (by omega)⟩
            refine J.condT rfl rfl ?_
            refine J.mask0 (n := 9) [7] rfl Try.mixed rfl (by kernel_rfl) ?_
            refine JM.take 0 (fun _ h => h) rfl (by kernel_rfl) rfl rfl rfl (m' := 1) rfl (Pur.move rfl) ?_
            refine JM.take 1 (fun _ h => h) rfl (by kernel_rfl) rfl rfl rfl (m' := 3) rfl (Pur.move rfl) ?_
            refine JM.take 2 (fun _ h => h) rfl (by kernel_rfl) rfl rfl rfl (m' := 7) rfl (Pur.idx rfl rfl rfl (by first | rfl | (simp; done) | omega) rfl (by omega)) ?_
            refine JM.take 3 (fun _ h => h) rfl (by kernel_rfl) rfl rfl rfl (m' := 15) rfl (Pur.load rfl (CellIn.el0 rfl hX rfl)) ?_
            refine JM.setv (u' := .int .i64 x) 86 rfl rfl ?_
            refine JM.take 4 (fun _ h => h) rfl (by kernel_rfl) rfl rfl rfl (m' := 31) rfl (Pur.move rfl) ?_
            refine JM.one (i := 5) (by kernel_rfl) ?_
            refine JMi.eff rfl rfl rfl rfl (m' := 63) rfl (Eff.call rfl (flying_ok (g := X) u1 (by omega))) ?_
            rintro _ _ ⟨a88, c88, rfl, rfl⟩
            refine ⟨.inr (fun _ h => h.tail), ?_⟩
            refine JM.take 6 (fun _ h => h.tail) rfl (by kernel_rfl) rfl rfl rfl (m' := 127) rfl (Pur.len rfl) ?_
            refine JM.one (i := 7) (by kernel_rfl) ?_
            refine JMi.eff rfl rfl rfl rfl (m' := 255) rfl (Eff.call rfl (mod_ok (z := x) (n := (X.fly.length : Int)) (by omega) (by omega))) ?_
            rintro _ _ ⟨kk, hkk, rfl, rfl⟩
            refine ⟨.inl (by simp), ?_⟩
            refine JM.takeF 8 (.inl (by kernel_rfl)) rfl (by kernel_rfl) rfl rfl rfl (m' := 511) rfl (Pur.assign rfl) ?_
            refine JM.done rfl ?_
            refine J.seq rfl ?_
            refine J.region rfl ?_
            refine JO.pur rfl rfl rfl (Pur.move rfl) ?_
            refine JO.pur rfl rfl rfl (Pur.gtr rfl rfl) ?_
            refine JO.pur rfl rfl rfl (Pur.move rfl) ?_
            refine JO.setv (u' := .bool false) 93 rfl (congrArg Value.bool (decide_eq_false (by omega))) ?_
            refine JO.pur rfl rfl rfl (Pur.move rfl) ?_
            refine JO.pur rfl rfl rfl (Pur.move rfl) ?_
            refine JO.imp (M := GB p am cm bs X :: L) (fun h s => SubC.out h s) ?_
            have hG2 := Gd.dlv hG (by decide) (k := kk) (by omega)
            refine JO.eff rfl rfl rfl (Eff.call rfl (deliverG_ok (g := X) (k := kk) u1 (by omega) (fun _ => u7) u4 (by omega))) ?_
            rintro _ _ ⟨rfl, rfl⟩
            refine JO.pur rfl rfl rfl (Pur.neqI rfl rfl) ?_
            refine JO.pur rfl rfl rfl (Pur.pickF rfl rfl) ?_
            refine JO.nil ?_
            refine J.setv (u' := .bool false) 98 rfl (congrArg Value.bool (decide_eq_false (fun h => h rfl))) ?_
            refine J.condF rfl rfl ?_
            refine J.skip rfl ?_
            refine J.inBlock ?_
            refine J.region rfl ?_
            refine JO.pur rfl rfl rfl (Pur.move rfl) ?_
            refine JO.pur rfl rfl rfl (Pur.add rfl rfl (wr64 (by omega))) ?_
            refine JO.pur rfl rfl rfl (Pur.assign rfl) ?_
            refine JO.nil ?_
            exact J.weaken (.cons rfl (congrArg (Value.int .i64) (by first | rfl | (dsimp only; omega))) (.cons rfl rfl (.cons rfl rfl (.cons rfl rfl .nil)))) (fun h s => by dsimp only; exact SubC.out h s) (iht (t + 1, dlvG X kk) hG2 (by have := hG2.le; dsimp only; omega))
          · try simp only [decide_eq_true_eq, decide_eq_false_iff_not, Bool.not_eq_true', Bool.not_eq_false', Bool.and_eq_true, Bool.or_eq_true, Bool.and_eq_false_iff, Bool.or_eq_false_iff, Option.isNone_some, Option.isSome_some, Option.isNone_none, Option.isSome_none, Int.not_lt, Int.not_le, beq_iff_eq, beq_eq_false_iff_ne, bne_iff_ne, ne_eq, Bool.not_not, Decidable.not_not] at h82
            obtain ⟨kk, hkk0⟩ : ∃ kk : Nat, kk = 0 := ⟨_, rfl⟩
            have hkk : (kk : Int) < (X.fly.length : Int) := by omega
            refine J.setv (u' := .int .i64 (kk : Int)) 15 rfl (by rw [hkk0]; rfl) ?_
            refine J.condF rfl rfl ?_
            refine J.skip rfl ?_
            refine J.seq rfl ?_
            refine J.region rfl ?_
            refine JO.pur rfl rfl rfl (Pur.move rfl) ?_
            refine JO.pur rfl rfl rfl (Pur.gtr rfl rfl) ?_
            refine JO.pur rfl rfl rfl (Pur.move rfl) ?_
            refine JO.setv (u' := .bool false) 93 rfl (congrArg Value.bool (decide_eq_false (by omega))) ?_
            refine JO.pur rfl rfl rfl (Pur.move rfl) ?_
            refine JO.pur rfl rfl rfl (Pur.move rfl) ?_
            refine JO.imp (M := GB p am cm bs X :: L) (fun h s => SubC.out h s) ?_
            have hG2 := Gd.dlv hG (by decide) (k := kk) (by omega)
            refine JO.eff rfl rfl rfl (Eff.call rfl (deliverG_ok (g := X) (k := kk) u1 (by omega) (fun _ => u7) u4 (by omega))) ?_
            rintro _ _ ⟨rfl, rfl⟩
            refine JO.pur rfl rfl rfl (Pur.neqI rfl rfl) ?_
            refine JO.pur rfl rfl rfl (Pur.pickF rfl rfl) ?_
            refine JO.nil ?_
            refine J.setv (u' := .bool false) 98 rfl (congrArg Value.bool (decide_eq_false (fun h => h rfl))) ?_
            refine J.condF rfl rfl ?_
            refine J.skip rfl ?_
            refine J.inBlock ?_
            refine J.region rfl ?_
            refine JO.pur rfl rfl rfl (Pur.move rfl) ?_
            refine JO.pur rfl rfl rfl (Pur.add rfl rfl (wr64 (by omega))) ?_
            refine JO.pur rfl rfl rfl (Pur.assign rfl) ?_
            refine JO.nil ?_
            exact J.weaken (.cons rfl (congrArg (Value.int .i64) (by first | rfl | (dsimp only; omega))) (.cons rfl rfl (.cons rfl rfl (.cons rfl rfl .nil)))) (fun h s => by dsimp only; exact SubC.out h s) (iht (t + 1, dlvG X kk) hG2 (by have := hG2.le; dsimp only; omega))
      · try simp only [decide_eq_true_eq, decide_eq_false_iff_not, Bool.not_eq_true', Bool.not_eq_false', Bool.and_eq_true, Bool.or_eq_true, Bool.and_eq_false_iff, Bool.or_eq_false_iff, Option.isNone_some, Option.isSome_some, Option.isNone_none, Option.isSome_none, Int.not_lt, Int.not_le, beq_iff_eq, beq_eq_false_iff_ne, bne_iff_ne, ne_eq, Bool.not_not, Decidable.not_not] at h57
        have hfe : X.fly = [] := List.eq_nil_of_length_eq_zero (by omega)
        obtain ⟨e1, e2, e3, e4, e5⟩ := hG.end_ hfe
        have e6 := e5 (by decide)
        refine J.condF rfl rfl ?_
        refine J.exit rfl rfl ?_
        refine J.seq rfl ?_
        refine J.seq rfl ?_
        refine J.region rfl ?_
        refine JO.pur rfl rfl rfl (Pur.assign rfl) ?_
        refine JO.nil ?_
        refine J.block rfl ?_
        refine J.loopF (ι := Nat) (fun w => w ≤ n) (fun w => [(16, .int .i64 (w : Int))]) [(0, _), (9, _)] (fun w => GB p am cm bs X :: L) (fun w => n - w) 0 rfl (.cons rfl rfl (.cons rfl rfl .nil)) (.cons rfl rfl .nil) (by first | exact fun _ h => h | exact SubC.out | (dsimp only; exact SubC.out)) (Nat.zero_le _) ?_
        rintro w hw ihw2
        try dsimp only
        refine J.seq rfl ?_
        refine J.seq rfl ?_
        refine J.region rfl ?_
        refine JO.pur rfl rfl rfl (Pur.move rfl) ?_
        refine JO.pur rfl rfl rfl (Pur.move rfl) ?_
        refine JO.pur rfl rfl rfl (Pur.lss rfl rfl) ?_
        refine JO.nil ?_
        refine J.splitB 101 rfl (fun h101 => ?_) (fun h101 => ?_)
        · try simp only [decide_eq_true_eq, decide_eq_false_iff_not, Bool.not_eq_true', Bool.not_eq_false', Bool.and_eq_true, Bool.or_eq_true, Bool.and_eq_false_iff, Bool.or_eq_false_iff, Option.isNone_some, Option.isSome_some, Option.isNone_none, Option.isSome_none, Int.not_lt, Int.not_le, beq_iff_eq, beq_eq_false_iff_ne, bne_iff_ne, ne_eq, Bool.not_not, Decidable.not_not] at h101
          have hrv := res_some (g := X) (q := w) (by omega) (by rw [u5]; decide) (e6 w (by omega)).1
          have htb := tot_bar n r ⟨#[43]⟩ (List.replicate n 0)
          rw [show o0 sBar ⟨#[43]⟩ = ⟨#[43]⟩ from if_pos rfl] at htb
          rw [(e6 w (by omega)).2, htb] at hrv
          refine J.condT rfl rfl ?_
          refine J.skip rfl ?_
          refine J.seq rfl ?_
          refine J.block rfl ?_
          refine J.seq rfl ?_
          refine J.region rfl ?_
          refine JO.pur rfl rfl rfl (Pur.move rfl) ?_
          refine JO.pur rfl rfl rfl (Pur.move rfl) ?_
          refine JO.effR rfl rfl rfl (Eff.call rfl (result_ok (g := X) (q := (w : Int)) u1)) ?_
          rw [hrv]
          refine JO.pur rfl rfl rfl (Pur.move rfl) ?_
          refine JO.pur rfl rfl rfl (Pur.extract rfl rfl) ?_
          refine JO.pur rfl rfl rfl (Pur.extract rfl rfl) ?_
          refine JO.pur rfl rfl rfl (Pur.assign rfl) ?_
          refine JO.pur rfl rfl rfl (Pur.assign rfl) ?_
          refine JO.nil ?_
          refine J.seq rfl ?_
          refine J.region rfl ?_
          refine JO.pur rfl rfl rfl (Pur.move rfl) ?_
          refine JO.pur rfl rfl rfl (Pur.neqI rfl rfl) ?_
          refine JO.pur rfl rfl rfl (Pur.move rfl) ?_
          refine JO.setv (u' := .bool false) 112 rfl (congrArg Value.bool (decide_eq_false (fun h => h rfl))) ?_
          refine JO.pur rfl rfl rfl (Pur.move rfl) ?_
          refine JO.pur rfl rfl rfl (Pur.neqI rfl rfl) ?_
          refine JO.pur rfl rfl rfl (Pur.pickF rfl rfl) ?_
          refine JO.nil ?_
          refine J.setv (u' := .bool false) 115 rfl (congrArg Value.bool (decide_eq_false (fun h => h rfl))) ?_
          refine J.condF rfl rfl ?_
          refine J.skip rfl ?_
          refine J.inBlock ?_
          refine J.region rfl ?_
          refine JO.pur rfl rfl rfl (Pur.move rfl) ?_
          refine JO.pur rfl rfl rfl (Pur.add rfl rfl (wr64 (by omega))) ?_
          refine JO.pur rfl rfl rfl (Pur.assign rfl) ?_
          refine JO.nil ?_
          exact J.weaken (.cons rfl (congrArg (Value.int .i64) (by first | rfl | (dsimp only; omega))) (.cons rfl rfl (.cons rfl rfl .nil))) (by first | exact fun _ h => h | exact SubC.out | (dsimp only; exact SubC.out)) (ihw2 (w + 1) (by omega) (by omega))
        · try simp only [decide_eq_true_eq, decide_eq_false_iff_not, Bool.not_eq_true', Bool.not_eq_false', Bool.and_eq_true, Bool.or_eq_true, Bool.and_eq_false_iff, Bool.or_eq_false_iff, Option.isNone_some, Option.isSome_some, Option.isNone_none, Option.isSome_none, Int.not_lt, Int.not_le, beq_iff_eq, beq_eq_false_iff_ne, bne_iff_ne, ne_eq, Bool.not_not, Decidable.not_not] at h101
          refine J.condF rfl rfl ?_
          refine J.exit rfl rfl ?_
          refine J.seq rfl ?_
          refine J.region rfl ?_
          refine JO.pur rfl rfl rfl (Pur.move rfl) ?_
          refine JO.effR rfl rfl rfl (Eff.call rfl (sent_ok (g := X) u1)) ?_
          refine JO.pur rfl rfl rfl (Pur.move rfl) ?_
          refine JO.pur rfl rfl rfl (Pur.sub rfl rfl (wr64 (by omega))) ?_
          refine JO.pur rfl rfl rfl (Pur.mul rfl rfl (wr64 (by omega))) ?_
          refine JO.pur rfl rfl rfl (Pur.eqlI rfl rfl) ?_
          refine JO.pur rfl rfl rfl (Pur.move rfl) ?_
          refine JO.setv (u' := .bool true) 122 rfl (congrArg Value.bool (decide_eq_true (by rw [e2, e1]; exact all_bar (by omega) (by omega) (by decide) (by decide)))) ?_
          refine JO.effR rfl rfl rfl (Eff.call rfl (awake_ok)) ?_
          refine JO.pur rfl rfl rfl (Pur.pickT rfl rfl) ?_
          refine JO.pur rfl rfl rfl (Pur.assign rfl) ?_
          refine JO.nil ?_
          refine J.ret rfl rfl ?_
          refine ⟨_, _, ⟨rfl, rfl⟩, rfl, SubC.out⟩

end Go.Proofs.Ytoikjjpleonllaa
