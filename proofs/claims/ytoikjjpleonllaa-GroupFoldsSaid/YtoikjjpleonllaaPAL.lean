/-
  A part of the proof of the claim that this folder bears.
-/
import Derived.Test.YtoikjjpleonllaaPAK
/- The text G16. -/
set_option linter.unusedVariables false
set_option linter.unusedSimpArgs false
set_option maxRecDepth 10000
namespace Go.Proofs.Ytoikjjpleonllaa
open Go Go.KK Gr

def accV (o : ByteArray) (vs : List Int) : Nat → Int
  | 0 => vs.getD 0 0
  | j + 1 => opV o (accV o vs j) (vs.getD (j + 1) 0)
def accR (o : ByteArray) (vs : List Int) : Nat → Int
  | 0 => vs.getD 0 0
  | j + 1 => rOp o (accR o vs j) (vs.getD (j + 1) 0)
theorem fold_acc (o : ByteArray) (vs : List Int) : ∀ j, fold1 o ((List.range (j + 1)).map fun p => vs.getD p 0) = accV o vs j
  | 0 => rfl
  | j + 1 => by
    rw [List.range_succ, List.map_append, fold1_app o (by simp) (by simp), fold_acc o vs j]; rfl
theorem rOp_eq {o : ByteArray} (ho : okOp o) {a b : Int} (h : (o = ⟨#[38]⟩ ∨ o = ⟨#[124]⟩) → (a = 0 ∨ a = 1) ∧ (b = 0 ∨ b = 1)) : rOp o a b = opV o a b ∧ ((o = ⟨#[38]⟩ ∨ o = ⟨#[124]⟩) → opV o a b = 0 ∨ opV o a b = 1) := by
  unfold rOp opV
  rcases ho with e | e | e | e | e | e
  · subst e; exact ⟨rfl, fun g => absurd g (by decide)⟩
  · subst e; exact ⟨rfl, fun g => absurd g (by decide)⟩
  · subst e; exact ⟨rfl, fun g => absurd g (by decide)⟩
  · subst e; exact ⟨rfl, fun g => absurd g (by decide)⟩
  · subst e
    obtain ⟨h1, h2⟩ := h (.inl rfl)
    rcases h1 with rfl | rfl <;> rcases h2 with rfl | rfl <;> exact ⟨rfl, fun _ => by decide⟩
  · subst e
    obtain ⟨h1, h2⟩ := h (.inr rfl)
    rcases h1 with rfl | rfl <;> rcases h2 with rfl | rfl <;> exact ⟨rfl, fun _ => by decide⟩
theorem acc_eq {o : ByteArray} (ho : okOp o) {vs : List Int} (h : (o = ⟨#[38]⟩ ∨ o = ⟨#[124]⟩) → ∀ v ∈ vs, v = 0 ∨ v = 1) : ∀ j, j < vs.length → accR o vs j = accV o vs j ∧ ((o = ⟨#[38]⟩ ∨ o = ⟨#[124]⟩) → accV o vs j = 0 ∨ accV o vs j = 1)
  | 0, hj => ⟨rfl, fun g => h g _ (by show vs.getD 0 0 ∈ vs; rw [List.getD_eq_getElem?_getD, List.getElem?_eq_getElem hj]; exact List.getElem_mem hj)⟩
  | j + 1, hj => by
    obtain ⟨a1, a2⟩ := acc_eq ho h j (by omega)
    have hm : vs.getD (j + 1) 0 ∈ vs := by rw [List.getD_eq_getElem?_getD, List.getElem?_eq_getElem hj]; exact List.getElem_mem hj
    have := rOp_eq ho (a := accV o vs j) (b := vs.getD (j + 1) 0) fun g => ⟨a2 g, h g _ hm⟩
    show rOp o (accR o vs j) _ = opV o (accV o vs j) _ ∧ (_ → opV o (accV o vs j) _ = 0 ∨ opV o (accV o vs j) _ = 1)
    rw [a1]; exact this
theorem acc_good {k o : ByteArray} {root : Int} {vs : List Int} (hg : goodN k o root vs) (hk : needN k) {j : Nat} (hj : j < vs.length) : accR o vs j = accV o vs j := by
  refine (acc_eq (ok_ops hg.1.2.1) (fun g v hv => ?_) j hj).1
  refine Classical.byContradiction fun e => hg.2 ⟨hk, g, v, hv, ?_⟩
  unfold isNB; omega
/-- What a member's result is, when all is over. -/
def resT (k o : ByteArray) (root : Int) (vs : List Int) (p : Nat) : Int × Int :=
  if k = sScan then (accR o vs p, 0) else if k = sCast then (vs.getD root.toNat 0, 0) else if k = sBar then (0, 0) else if k = sAll then (accR o vs (vs.length - 1), 0)
  else if (p : Int) = root then (accR o vs (vs.length - 1), 0) else (0, 2)
theorem resT_scan {k o : ByteArray} {root : Int} {vs : List Int} {p : Nat} (h : k = sScan) : resT k o root vs p = (accR o vs p, 0) := if_pos h
theorem resT_cast {k o : ByteArray} {root : Int} {vs : List Int} {p : Nat} (h : k = sCast) : resT k o root vs p = (vs.getD root.toNat 0, 0) := by subst h; rfl
theorem resT_bar {k o : ByteArray} {root : Int} {vs : List Int} {p : Nat} (h : k = sBar) : resT k o root vs p = (0, 0) := by subst h; rfl
theorem resT_all {k o : ByteArray} {root : Int} {vs : List Int} {p : Nat} (h : k = sAll) : resT k o root vs p = (accR o vs (vs.length - 1), 0) := by subst h; rfl
theorem resT_red1 {k o : ByteArray} {root : Int} {vs : List Int} {p : Nat} (h : k = sRed) (h2 : (p : Int) = root) : resT k o root vs p = (accR o vs (vs.length - 1), 0) := by subst h; exact if_pos h2
theorem resT_red2 {k o : ByteArray} {root : Int} {vs : List Int} {p : Nat} (h : k = sRed) (h2 : ¬ (p : Int) = root) : resT k o root vs p = (0, 2) := by subst h; exact if_neg h2
/-- What is kept, of all kinds. -/
def GF (k o : ByteArray) (root : Int) (vs : List Int) (t : Nat) (g : Gs) : Prop :=
  if k = sScan then GdS vs.length o (fun p => vs.getD p 0) t g else Gd vs.length root.toNat k (o0 k o) (vs0 k vs) t g
theorem GF_new {k o : ByteArray} {root : Int} {vs : List Int} (hg : goodN k o root vs) : GF k o root vs 0 (newG k o root vs) := by
  obtain ⟨⟨g1, g2, ⟨g3, g4⟩, g5⟩, g6⟩ := hg
  unfold GF
  split
  · rename_i h
    have hb : ¬ k = sBar := by rw [h]; decide
    have hw : W0 k vs = vs := if_neg hb
    obtain ⟨a1, a2, a3, a4⟩ := g0_kind k o root vs
    obtain ⟨b1, b2⟩ := g0_ms k o root vs
    refine RawS.good ⟨by omega, g0_len _ _ _ _, a1.trans h, b2.trans (if_neg hb), wf_g0 g3 g4, fun p hp => ?_, a3, a4⟩
    rw [mem_ms b1 (by rw [W0_len]; exact hp), hw]; exact ⟨rfl, rfl, rfl, rfl⟩
  · rename_i h
    have hr := g5 h
    have e : root = ((root.toNat : Nat) : Int) := by omega
    have := good_new (k := k) (o := o) (r := root.toNat) (vs := vs) g3 g4 (by omega) h
    rw [← e] at this; exact this
theorem o0_ok {k o : ByteArray} (h : okOp o) : okOp (o0 k o) := by unfold o0; split; exact .inl rfl; exact h
theorem GF_use {k o : ByteArray} {root : Int} {vs : List Int} {t : Nat} {g : Gs} (hg : goodN k o root vs) (h : GF k o root vs t g) : wf g ∧ g.ms.length = vs.length ∧ g.fly.length ≤ 110 ∧ okOp g.op ∧ (¬ g.kind = sScan → 0 ≤ g.root ∧ g.root < (g.ms.length : Int)) ∧ g.kind = k ∧ t ≤ 17 := by
  have ho := ok_ops hg.1.2.1
  unfold GF at h
  split at h
  · rename_i hk
    have h17 := h.le
    obtain ⟨⟨D, hT, ht⟩, hf⟩ := h
    exact ⟨hT.hwf, hT.len, by omega, by rw [hT.hop]; exact ho, fun e => absurd hT.hkd e, hT.hkd.trans hk.symm, h17⟩
  · obtain ⟨u1, u2, u3, u4, u5, u6, u7, u8⟩ := Gd.use h (o0_ok ho)
    exact ⟨u1, u2, by omega, u4, fun _ => u7, u5, by omega⟩
theorem GF_dlv {k o : ByteArray} {root : Int} {vs : List Int} {t : Nat} {g : Gs} (h : GF k o root vs t g) {q : Nat} (hq : q < g.fly.length) : GF k o root vs (t + 1) (dlvG g q) := by
  unfold GF at h ⊢
  split at h
  · rename_i hk
    rw [if_pos hk]
    have h1 := h.step hq
    obtain ⟨⟨D, hT, ht⟩, hf⟩ := h
    have e : dlvG g q = dlvS g q := if_pos hT.hkd
    rw [e]; exact h1
  · rename_i hk
    rw [if_neg hk]; exact Gd.dlv h hk hq
theorem all_one {n root : Nat} (hn : n < 9) (hr : root < n) {kd : ByteArray} (h : kd = sCast ∨ kd = sRed) : (all_ n root kd : Int) = (n : Int) - 1 := by
  have := base_len n hn root hr
  unfold all_ ids
  rcases h with rfl | rfl
  · rw [if_pos rfl, if_neg (by decide), List.length_append, List.length_map]; simp; omega
  · rw [if_neg (by decide), if_pos rfl, List.length_append, List.length_map]; simp; omega
theorem cnt_is {k : ByteArray} {n : Nat} (hk : k ∈ kinds) (h1 : 1 ≤ n) (h8 : n ≤ 8) : cntV k (n : Int) = (if k = sCast ∨ k = sRed then (n : Int) - 1 else if k = sAll ∨ k = sBar then 2 * ((n : Int) - 1) else scm 4 (n : Int) 1 0, 0) := if_pos ⟨hk, by omega, by omega⟩
theorem GF_end {k o : ByteArray} {root : Int} {vs : List Int} {t : Nat} {g : Gs} (hg : goodN k o root vs) (h : GF k o root vs t g) (he : g.fly = []) : g.sent = (cntV k (vs.length : Int)).1 ∧ ∀ p, p < vs.length → resV g (p : Int) = resT k o root vs p := by
  have hu := GF_use hg h
  obtain ⟨⟨g1, g2, ⟨g3, g4⟩, g5⟩, g6⟩ := id hg
  obtain ⟨u1, u2, u3, u4, u5, u6, u7⟩ := hu
  unfold GF at h
  rw [cnt_is g1 g3 g4]
  split at h
  · rename_i hk
    obtain ⟨e1, e2, e3⟩ := h.end_ he
    constructor
    · rw [e2, e1, ids2_scm _ (by omega) g3]
      rw [if_neg (by rw [hk]; decide), if_neg (by rw [hk]; decide)]
    · intro p hp
      rw [res_some (by omega) (by rw [u6, hk]; decide) (e3 p hp).1, (e3 p hp).2, resT_scan hk, fold_acc, acc_good hg (.inr (.inr hk)) hp]
  · rename_i hk
    have hr := g5 hk
    have hrn : root.toNat < vs.length := by omega
    obtain ⟨e1, e2, e3, e4, e5⟩ := h.end_ he
    have hroot : g.root = root := by
      obtain ⟨D, hT, ht⟩ := h
      rw [hT.hroot]; omega
    have hkk := g1
    simp only [kinds, List.mem_cons, List.not_mem_nil, or_false] at hkk
    have htot : ∀ (hb : ¬ k = sBar) (hc : ¬ k = sCast) (hn : needN k), tot vs.length root.toNat k (o0 k o) (vs0 k vs) = accR o vs (vs.length - 1) := fun hb hc hn => by
      unfold tot
      rw [if_neg hc, sub_all (by omega) hrn]
      have e6 : o0 k o = o := if_neg hb
      have e7 : vs0 k vs = fun p => vs.getD p 0 := by unfold vs0 W0; rw [if_neg hb]
      rw [e6, e7, acc_good hg hn (by omega), ← fold_acc, show vs.length - 1 + 1 = vs.length by omega]
    rcases hkk with hk1 | hk1 | hk1 | hk1 | hk1
    · have hb : ¬ k = sBar := by rw [hk1]; decide
      constructor
      · rw [e2, e1, all_one (by omega) hrn (.inl hk1), if_pos (.inl hk1)]
      · intro p hp
        obtain ⟨f1, f2⟩ := e5 (by rw [hk1]; decide) p hp
        rw [res_some (by omega) (by rw [u6, hk1]; decide) f1, f2, resT_cast hk1]
        unfold tot
        rw [if_pos (show k = sCast from hk1)]
        unfold vs0 W0
        rw [if_neg hb]
    · constructor
      · rw [e2, e1, all_one (by omega) hrn (.inr hk1), if_pos (.inr hk1)]
      · intro p hp
        by_cases e : (p : Int) = root
        · rw [resT_red1 hk1 e]
          have ep : p = root.toNat := by omega
          unfold resV
          rw [if_neg (by rintro (h | h | h); omega; omega; exact h.2 (e.trans hroot.symm)), Int.toNat_natCast, ep, if_pos e3, e4, htot (by rw [hk1]; decide) (by rw [hk1]; decide) (.inl hk1)]
        · rw [resT_red2 hk1 e]
          unfold resV
          rw [if_pos (.inr (.inr ⟨u6.trans hk1, by rw [hroot]; exact e⟩))]
    · constructor
      · rw [e2, e1, all_bar (by omega) hrn (by rw [hk1]; decide) (by rw [hk1]; decide), if_neg (by rw [hk1]; decide), if_pos (.inl hk1)]
      · intro p hp
        obtain ⟨f1, f2⟩ := e5 (by rw [hk1]; decide) p hp
        rw [res_some (by omega) (by rw [u6, hk1]; decide) f1, f2, resT_all hk1, htot (by rw [hk1]; decide) (by rw [hk1]; decide) (.inr (.inl hk1))]
    · constructor
      · rw [e2, e1, all_bar (by omega) hrn (by rw [hk1]; decide) (by rw [hk1]; decide), if_neg (by rw [hk1]; decide), if_pos (.inr hk1)]
      · intro p hp
        obtain ⟨f1, f2⟩ := e5 (by rw [hk1]; decide) p hp
        have hk2 : k = sBar := hk1
        rw [res_some (by omega) (by rw [u6, hk1]; decide) f1, f2, resT_bar hk1]
        subst hk2
        rw [tot_bar]
    · exact absurd hk1 hk
set_option maxHeartbeats 4000000 in
theorem lawFolds_good {L : List Asn} {va la : Option Addr} {vn vc ln lc : Nat} {k o : ByteArray} {root : Int} {vs l : List Int} [SlIn intE L va vs] [SlIn intE L la l] (hn : vn = vs.length) (hl : ln = l.length) (hg : goodN k o root vs) :
    CallS Try.prog 7 [.agg #[.string k, .string o, .int .i64 root, .slice va vn vc], .slice la ln lc].toArray L (fun v M => v = .bool true ∧ M = L) := by
  subst hn
  subst hl
  refine CallS.ent ?_
  refine CallS.enter Try.func7 rfl rfl rfl rfl rfl ?_
  refine J.seq rfl ?_
  refine J.region rfl ?_
  refine JO.eff rfl rfl rfl (Eff.box (cs := [_, _, _, _]) rfl rfl) ?_
  rintro _ _ ⟨b2, rfl, rfl⟩
  refine JO.pur rfl rfl rfl (Pur.assign rfl) ?_
  refine JO.nil ?_
  refine J.seq rfl ?_
  refine J.quiet rfl Try.mixed (by kernel_rfl) ?_
  refine JQ.pur rfl rfl rfl (Pur.fieldAddr rfl) ?_
  refine JQ.pur rfl rfl rfl (Pur.load rfl (CellIn.blk rfl)) ?_
  refine JQ.pur rfl rfl rfl (Pur.fieldAddr rfl) ?_
  refine JQ.pur rfl rfl rfl (Pur.load rfl (CellIn.blk rfl)) ?_
  refine JQ.pur rfl rfl rfl (Pur.fieldAddr rfl) ?_
  refine JQ.pur rfl rfl rfl (Pur.load rfl (CellIn.blk rfl)) ?_
  refine JQ.pur rfl rfl rfl (Pur.fieldAddr rfl) ?_
  refine JQ.pur rfl rfl rfl (Pur.load rfl (CellIn.blk rfl)) ?_
  refine JQ.pur rfl rfl rfl (Pur.assign rfl) ?_
  refine JQ.pur rfl rfl rfl (Pur.assign rfl) ?_
  refine JQ.pur rfl rfl rfl (Pur.assign rfl) ?_
  refine JQ.pur rfl rfl rfl (Pur.assign rfl) ?_
  refine JQ.nil ?_
  refine J.seq rfl ?_
  refine J.region rfl ?_
  refine JO.pur rfl rfl rfl (Pur.move rfl) ?_
  refine JO.pur rfl rfl rfl (Pur.move rfl) ?_
  refine JO.pur rfl rfl rfl (Pur.move rfl) ?_
  refine JO.pur rfl rfl rfl (Pur.move rfl) ?_
  refine JO.eff rfl rfl rfl (Eff.call rfl (newG_good (k := k) (vs := vs) rfl hg)) ?_
  rintro _ _ ⟨p, am, cm, bs, rfl, rfl⟩
  refine JO.pur rfl rfl rfl (Pur.move rfl) ?_
  refine JO.pur rfl rfl rfl (Pur.extract rfl rfl) ?_
  refine JO.pur rfl rfl rfl (Pur.extract rfl rfl) ?_
  refine JO.pur rfl rfl rfl (Pur.assign rfl) ?_
  refine JO.pur rfl rfl rfl (Pur.assign rfl) ?_
  refine JO.nil ?_
  refine J.seq rfl ?_
  refine J.seq rfl ?_
  refine J.region rfl ?_
  refine JO.pur rfl rfl rfl (Pur.move rfl) ?_
  refine JO.pur rfl rfl rfl (Pur.neqI rfl rfl) ?_
  refine JO.nil ?_
  refine J.setv (u' := .bool false) 40 rfl (congrArg Value.bool (decide_eq_false (fun h => h rfl))) ?_
  refine J.condF rfl rfl ?_
  refine J.skip rfl ?_
  refine J.seq rfl ?_
  refine J.region rfl ?_
  refine JO.pur rfl rfl rfl (Pur.move rfl) ?_
  refine JO.pur rfl rfl rfl (Pur.len rfl) ?_
  refine JO.pur rfl rfl rfl (Pur.assign rfl) ?_
  refine JO.nil ?_
  refine J.seq rfl ?_
  refine J.seq rfl ?_
  refine J.region rfl ?_
  refine JO.pur rfl rfl rfl (Pur.assign rfl) ?_
  refine JO.nil ?_
  refine J.block rfl ?_
  refine J.loopF (ι := Nat × Gs) (fun q => GF k o root vs q.1 q.2) (fun q => [(12, .int .i64 (q.1 : Int))]) [(1, _), (5, _), (6, _), (7, _), (8, _), (9, _), (11, _)] (fun q => GB p am cm bs q.2 :: blk b2 (.cells #[.string k, .string o, .int .i64 root, .slice va vs.length vc] 24) :: L) (fun q => 18 - q.1) (0, newG k o root vs) rfl (.cons rfl rfl (.cons rfl rfl (.cons rfl rfl (.cons rfl rfl (.cons rfl rfl (.cons rfl rfl (.cons rfl rfl .nil))))))) (.cons rfl rfl .nil) (by first | exact fun _ h => h | exact SubC.out | (dsimp only; exact SubC.out)) (GF_new hg) ?_
  rintro ⟨t, X⟩ hG iht
  try dsimp only
  have hG : GF k o root vs t X := hG
  obtain ⟨u1, u2, u3, u4, u5, u6, u7⟩ := GF_use hg hG
  refine J.seq rfl ?_
  refine J.seq rfl ?_
  refine J.region rfl ?_
  refine JO.pur rfl rfl rfl (Pur.move rfl) ?_
  refine JO.effR rfl rfl rfl (Eff.call rfl (over_ok (g := X) u1)) ?_
  refine JO.pur rfl rfl rfl (Pur.not rfl) ?_
  refine JO.nil ?_
  refine J.splitB 50 rfl (fun h50 => ?_) (fun h50 => ?_)
  · try simp only [decide_eq_true_eq, decide_eq_false_iff_not, Bool.not_eq_true', Bool.not_eq_false', Bool.and_eq_true, Bool.or_eq_true, Bool.and_eq_false_iff, Bool.or_eq_false_iff, Option.isNone_some, Option.isSome_some, Option.isNone_none, Option.isSome_none, Int.not_lt, Int.not_le, beq_iff_eq, beq_eq_false_iff_ne, bne_iff_ne, ne_eq, Bool.not_not, Decidable.not_not] at h50
    refine J.condT rfl rfl ?_
    refine J.skip rfl ?_
    refine J.seq rfl ?_
    refine J.block rfl ?_
    refine J.seq rfl ?_
    refine J.region rfl ?_
    refine JO.pur rfl rfl rfl (Pur.assign rfl) ?_
    refine JO.nil ?_
    refine J.seq rfl ?_
    refine J.seq rfl ?_
    refine J.region rfl ?_
    refine JO.pur rfl rfl rfl (Pur.move rfl) ?_
    refine JO.pur rfl rfl rfl (Pur.move rfl) ?_
    refine JO.pur rfl rfl rfl (Pur.len rfl) ?_
    refine JO.pur rfl rfl rfl (Pur.lss rfl rfl) ?_
    refine JO.nil ?_
    refine J.splitB 56 rfl (fun h56 => ?_) (fun h56 => ?_)
    · try simp only [decide_eq_true_eq, decide_eq_false_iff_not, Bool.not_eq_true', Bool.not_eq_false', Bool.and_eq_true, Bool.or_eq_true, Bool.and_eq_false_iff, Bool.or_eq_false_iff, Option.isNone_some, Option.isSome_some, Option.isNone_none, Option.isSome_none, Int.not_lt, Int.not_le, beq_iff_eq, beq_eq_false_iff_ne, bne_iff_ne, ne_eq, Bool.not_not, Decidable.not_not] at h56
      obtain ⟨x, hX⟩ : ∃ x, l[t]? = some x := ⟨_, List.getElem?_eq_getElem (by omega)⟩
      refine J.condT rfl rfl ?_
      refine J.mask0 (n := 9) [7] rfl Try.mixed rfl (by kernel_rfl) ?_
      refine JM.take 0 (fun _ h => h) rfl (by kernel_rfl) rfl rfl rfl (m' := 1) rfl (Pur.move rfl) ?_
      refine JM.take 1 (fun _ h => h) rfl (by kernel_rfl) rfl rfl rfl (m' := 3) rfl (Pur.move rfl) ?_
      refine JM.take 2 (fun _ h => h) rfl (by kernel_rfl) rfl rfl rfl (m' := 7) rfl (Pur.idx rfl rfl rfl (by first | rfl | (simp; done) | omega) rfl (by omega)) ?_
      refine JM.take 3 (fun _ h => h) rfl (by kernel_rfl) rfl rfl rfl (m' := 15) rfl (Pur.load rfl (CellIn.el0 rfl hX rfl)) ?_
      refine JM.setv (u' := .int .i64 x) 60 rfl rfl ?_
      refine JM.take 4 (fun _ h => h) rfl (by kernel_rfl) rfl rfl rfl (m' := 31) rfl (Pur.move rfl) ?_
      refine JM.one (i := 5) (by kernel_rfl) ?_
      refine JMi.eff rfl rfl rfl rfl (m' := 63) rfl (Eff.call rfl (flying_ok (g := X) u1 (by omega))) ?_
      rintro _ _ ⟨a62, c62, rfl, rfl⟩
      refine ⟨.inr (fun _ h => h.tail), ?_⟩
      refine JM.take 6 (fun _ h => h.tail) rfl (by kernel_rfl) rfl rfl rfl (m' := 127) rfl (Pur.len rfl) ?_
      refine JM.one (i := 7) (by kernel_rfl) ?_
      refine JMi.eff rfl rfl rfl rfl (m' := 255) rfl (Eff.call rfl (mod_ok (z := x) (n := (X.fly.length : Int)) (by omega) (by omega))) ?_
      rintro _ _ ⟨kk, hkk, rfl, rfl⟩
      refine ⟨.inl (by simp), ?_⟩
      refine JM.takeF 8 (.inl (by kernel_rfl)) rfl (by kernel_rfl) rfl rfl rfl (m' := 511) rfl (Pur.assign rfl) ?_
      refine JM.done rfl ?_
      refine J.seq rfl ?_
      refine J.region rfl ?_
      refine JO.pur rfl rfl rfl (Pur.move rfl) ?_
      refine JO.pur rfl rfl rfl (Pur.gtr rfl rfl) ?_
      refine JO.pur rfl rfl rfl (Pur.move rfl) ?_
      refine JO.setv (u' := .bool false) 67 rfl (congrArg Value.bool (decide_eq_false (by omega))) ?_
      refine JO.pur rfl rfl rfl (Pur.move rfl) ?_
      refine JO.pur rfl rfl rfl (Pur.move rfl) ?_
      refine JO.imp (M := GB p am cm bs X :: blk b2 (.cells #[.string k, .string o, .int .i64 root, .slice va vs.length vc] 24) :: L) (fun h s => SubC.out h s) ?_
      have hG2 := GF_dlv hG (q := kk) (by omega)
      refine JO.eff rfl rfl rfl (Eff.call rfl (deliverG_ok (g := X) (k := kk) u1 (by omega) u5 u4 (by omega))) ?_
      rintro _ _ ⟨rfl, rfl⟩
      refine JO.pur rfl rfl rfl (Pur.neqI rfl rfl) ?_
      refine JO.pur rfl rfl rfl (Pur.pickF rfl rfl) ?_
      refine JO.nil ?_
      refine J.setv (u' := .bool false) 72 rfl (congrArg Value.bool (decide_eq_false (fun h => h rfl))) ?_
      refine J.condF rfl rfl ?_
      refine J.skip rfl ?_
      refine J.inBlock ?_
      refine J.region rfl ?_
      refine JO.pur rfl rfl rfl (Pur.move rfl) ?_
      refine JO.pur rfl rfl rfl (Pur.add rfl rfl (wr64 (by omega))) ?_
      refine JO.pur rfl rfl rfl (Pur.assign rfl) ?_
      refine JO.nil ?_
      exact J.weaken (.cons rfl (congrArg (Value.int .i64) (by first | rfl | (dsimp only; omega))) (.cons rfl rfl (.cons rfl rfl (.cons rfl rfl (.cons rfl rfl (.cons rfl rfl (.cons rfl rfl (.cons rfl rfl .nil)))))))) (fun h s => by dsimp only; exact SubC.out h s) (iht (t + 1, dlvG X kk) hG2 (by dsimp only; omega))
    · try simp only [decide_eq_true_eq, decide_eq_false_iff_not, Bool.not_eq_true', Bool.not_eq_false', Bool.and_eq_true, Bool.or_eq_true, Bool.and_eq_false_iff, Bool.or_eq_false_iff, Option.isNone_some, Option.isSome_some, Option.isNone_none, Option.isSome_none, Int.not_lt, Int.not_le, beq_iff_eq, beq_eq_false_iff_ne, bne_iff_ne, ne_eq, Bool.not_not, Decidable.not_not] at h56
      obtain ⟨kk, hkk0⟩ : ∃ kk : Nat, kk = 0 := ⟨_, rfl⟩
      have hkk : (kk : Int) < (X.fly.length : Int) := by omega
      refine J.setv (u' := .int .i64 (kk : Int)) 13 rfl (by rw [hkk0]; rfl) ?_
      refine J.condF rfl rfl ?_
      refine J.skip rfl ?_
      refine J.seq rfl ?_
      refine J.region rfl ?_
      refine JO.pur rfl rfl rfl (Pur.move rfl) ?_
      refine JO.pur rfl rfl rfl (Pur.gtr rfl rfl) ?_
      refine JO.pur rfl rfl rfl (Pur.move rfl) ?_
      refine JO.setv (u' := .bool false) 67 rfl (congrArg Value.bool (decide_eq_false (by omega))) ?_
      refine JO.pur rfl rfl rfl (Pur.move rfl) ?_
      refine JO.pur rfl rfl rfl (Pur.move rfl) ?_
      refine JO.imp (M := GB p am cm bs X :: blk b2 (.cells #[.string k, .string o, .int .i64 root, .slice va vs.length vc] 24) :: L) (fun h s => SubC.out h s) ?_
      have hG2 := GF_dlv hG (q := kk) (by omega)
      refine JO.eff rfl rfl rfl (Eff.call rfl (deliverG_ok (g := X) (k := kk) u1 (by omega) u5 u4 (by omega))) ?_
      rintro _ _ ⟨rfl, rfl⟩
      refine JO.pur rfl rfl rfl (Pur.neqI rfl rfl) ?_
      refine JO.pur rfl rfl rfl (Pur.pickF rfl rfl) ?_
      refine JO.nil ?_
      refine J.setv (u' := .bool false) 72 rfl (congrArg Value.bool (decide_eq_false (fun h => h rfl))) ?_
      refine J.condF rfl rfl ?_
      refine J.skip rfl ?_
      refine J.inBlock ?_
      refine J.region rfl ?_
      refine JO.pur rfl rfl rfl (Pur.move rfl) ?_
      refine JO.pur rfl rfl rfl (Pur.add rfl rfl (wr64 (by omega))) ?_
      refine JO.pur rfl rfl rfl (Pur.assign rfl) ?_
      refine JO.nil ?_
      exact J.weaken (.cons rfl (congrArg (Value.int .i64) (by first | rfl | (dsimp only; omega))) (.cons rfl rfl (.cons rfl rfl (.cons rfl rfl (.cons rfl rfl (.cons rfl rfl (.cons rfl rfl (.cons rfl rfl .nil)))))))) (fun h s => by dsimp only; exact SubC.out h s) (iht (t + 1, dlvG X kk) hG2 (by dsimp only; omega))
  · try simp only [decide_eq_true_eq, decide_eq_false_iff_not, Bool.not_eq_true', Bool.not_eq_false', Bool.and_eq_true, Bool.or_eq_true, Bool.and_eq_false_iff, Bool.or_eq_false_iff, Option.isNone_some, Option.isSome_some, Option.isNone_none, Option.isSome_none, Int.not_lt, Int.not_le, beq_iff_eq, beq_eq_false_iff_ne, bne_iff_ne, ne_eq, Bool.not_not, Decidable.not_not] at h50
    have hfe : X.fly = [] := List.eq_nil_of_length_eq_zero (by omega)
    obtain ⟨e1, e2⟩ := GF_end hg hG hfe
    obtain ⟨⟨g1, g2, ⟨g3, g4⟩, g5⟩, g6⟩ := id hg
    have hcn := congrArg Prod.snd (cnt_is g1 g3 g4)
    dsimp only at hcn
    refine J.condF rfl rfl ?_
    refine J.exit rfl rfl ?_
    refine J.seq rfl ?_
    refine J.region rfl ?_
    refine JO.pur rfl rfl rfl (Pur.move rfl) ?_
    refine JO.pur rfl rfl rfl (Pur.move rfl) ?_
    refine JO.effR rfl rfl rfl (Eff.call rfl (Messages_ok (t := k) (n := (vs.length : Int)))) ?_
    refine JO.pur rfl rfl rfl (Pur.move rfl) ?_
    refine JO.pur rfl rfl rfl (Pur.extract rfl rfl) ?_
    refine JO.pur rfl rfl rfl (Pur.extract rfl rfl) ?_
    refine JO.pur rfl rfl rfl (Pur.assign rfl) ?_
    refine JO.pur rfl rfl rfl (Pur.assign rfl) ?_
    refine JO.nil ?_
    refine J.seq rfl ?_
    refine J.seq rfl ?_
    refine J.region rfl ?_
    refine JO.pur rfl rfl rfl (Pur.move rfl) ?_
    refine JO.effR rfl rfl rfl (Eff.call rfl (sent_ok (g := X) u1)) ?_
    refine JO.pur rfl rfl rfl (Pur.move rfl) ?_
    refine JO.pur rfl rfl rfl (Pur.neqI rfl rfl) ?_
    refine JO.pur rfl rfl rfl (Pur.move rfl) ?_
    refine JO.setv (u' := .bool false) 83 rfl (congrArg Value.bool (decide_eq_false (fun h => h e1))) ?_
    refine JO.pur rfl rfl rfl (Pur.move rfl) ?_
    refine JO.pur rfl rfl rfl (Pur.neqI rfl rfl) ?_
    refine JO.pur rfl rfl rfl (Pur.pickF rfl rfl) ?_
    refine JO.nil ?_
    refine J.setv (u' := .bool false) 86 rfl (congrArg Value.bool (decide_eq_false (fun h => h hcn))) ?_
    refine J.condF rfl rfl ?_
    refine J.skip rfl ?_
    refine J.seq rfl ?_
    refine J.region rfl ?_
    refine JO.pur rfl rfl rfl (Pur.move rfl) ?_
    refine JO.pur rfl rfl rfl (Pur.idx rfl rfl rfl (by first | rfl | (simp; done) | omega) (show (0 : Int) = ((0 : Nat) : Int) from rfl) (by omega)) ?_
    refine JO.pur rfl rfl rfl (Pur.load rfl (CellIn.el0 rfl (show vs[0]? = some (vs.getD 0 0) by rw [List.getD_eq_getElem?_getD, List.getElem?_eq_getElem (by omega)]; rfl) rfl)) ?_
    refine JO.setv (u' := .int .i64 (accR o vs 0)) 89 rfl rfl ?_
    refine JO.pur rfl rfl rfl (Pur.assign rfl) ?_
    refine JO.nil ?_
    refine J.seq rfl ?_
    refine J.seq rfl ?_
    refine J.region rfl ?_
    refine JO.pur rfl rfl rfl (Pur.assign rfl) ?_
    refine JO.nil ?_
    refine J.block rfl ?_
    refine J.loopF (ι := Nat) (fun w => w ≤ vs.length) (fun w => [(16, .int .i64 (accR o vs (w - 1))), (17, .int .i64 (w : Int))]) [(5, _), (6, _), (7, _), (8, _), (9, _), (11, _)] (fun w => GB p am cm bs X :: blk b2 (.cells #[.string k, .string o, .int .i64 root, .slice va vs.length vc] 24) :: L) (fun w => vs.length - w) 0 rfl (.cons rfl rfl (.cons rfl rfl (.cons rfl rfl (.cons rfl rfl (.cons rfl rfl (.cons rfl rfl .nil)))))) (.cons rfl rfl (.cons rfl rfl .nil)) (by first | exact fun _ h => h | exact SubC.out | (dsimp only; exact SubC.out)) (Nat.zero_le _) ?_
    rintro w hw ihw
    try dsimp only
    refine J.seq rfl ?_
    refine J.seq rfl ?_
    refine J.region rfl ?_
    refine JO.pur rfl rfl rfl (Pur.move rfl) ?_
    refine JO.pur rfl rfl rfl (Pur.move rfl) ?_
    refine JO.pur rfl rfl rfl (Pur.lss rfl rfl) ?_
    refine JO.nil ?_
    refine J.splitB 92 rfl (fun h92 => ?_) (fun h92 => ?_)
    · try simp only [decide_eq_true_eq, decide_eq_false_iff_not, Bool.not_eq_true', Bool.not_eq_false', Bool.and_eq_true, Bool.or_eq_true, Bool.and_eq_false_iff, Bool.or_eq_false_iff, Option.isNone_some, Option.isSome_some, Option.isNone_none, Option.isSome_none, Int.not_lt, Int.not_le, beq_iff_eq, beq_eq_false_iff_ne, bne_iff_ne, ne_eq, Bool.not_not, Decidable.not_not] at h92
      have hwl : w < vs.length := by omega
      have hr := e2 w hwl
      refine J.condT rfl rfl ?_
      refine J.skip rfl ?_
      refine J.seq rfl ?_
      refine J.block rfl ?_
      refine J.seq rfl ?_
      refine J.seq rfl ?_
      refine J.region rfl ?_
      refine JO.pur rfl rfl rfl (Pur.move rfl) ?_
      refine JO.pur rfl rfl rfl (Pur.gtr rfl rfl) ?_
      refine JO.nil ?_
      refine J.splitB 96 rfl (fun h96 => ?_) (fun h96 => ?_)
      · try simp only [decide_eq_true_eq, decide_eq_false_iff_not, Bool.not_eq_true', Bool.not_eq_false', Bool.and_eq_true, Bool.or_eq_true, Bool.and_eq_false_iff, Bool.or_eq_false_iff, Option.isNone_some, Option.isSome_some, Option.isNone_none, Option.isSome_none, Int.not_lt, Int.not_le, beq_iff_eq, beq_eq_false_iff_ne, bne_iff_ne, ne_eq, Bool.not_not, Decidable.not_not] at h96
        have hw1 : accR o vs w = rOp o (accR o vs (w - 1)) (vs.getD w 0) := by obtain ⟨w', rfl⟩ : ∃ w', w = w' + 1 := ⟨w - 1, by omega⟩; rfl
        have hX : vs[w]? = some (vs.getD w 0) := by rw [List.getD_eq_getElem?_getD, List.getElem?_eq_getElem hwl]; rfl
        refine J.condT rfl rfl ?_
        refine J.region rfl ?_
        refine JO.pur rfl rfl rfl (Pur.move rfl) ?_
        refine JO.pur rfl rfl rfl (Pur.move rfl) ?_
        refine JO.pur rfl rfl rfl (Pur.move rfl) ?_
        refine JO.pur rfl rfl rfl (Pur.move rfl) ?_
        refine JO.pur rfl rfl rfl (Pur.idx rfl rfl rfl (by first | rfl | (simp; done) | omega) rfl (by omega)) ?_
        refine JO.pur rfl rfl rfl (Pur.load rfl (CellIn.el0 rfl hX rfl)) ?_
        refine JO.setv (u' := .int .i64 (vs.getD w 0)) 103 rfl rfl ?_
        refine JO.eff rfl rfl rfl (Eff.buildSlice intE [accR o vs (w - 1), vs.getD w 0] rfl rfl rfl rfl rfl rfl rfl) ?_
        rintro _ _ ⟨b104, rfl, -, rfl⟩
        refine JO.effR rfl rfl rfl (Eff.call rfl (rOp2_ok (op := o) (a := accR o vs (w - 1)) (b := vs.getD w 0) (ok_ops g2) rfl)) ?_
        rw [← hw1]
        refine JO.pur rfl rfl rfl (Pur.move rfl) ?_
        refine JO.pur rfl rfl rfl (Pur.extract rfl rfl) ?_
        refine JO.pur rfl rfl rfl (Pur.extract rfl rfl) ?_
        refine JO.pur rfl rfl rfl (Pur.extract rfl rfl) ?_
        refine JO.pur rfl rfl rfl (Pur.assign rfl) ?_
        refine JO.nil ?_
        refine J.seq rfl ?_
        refine J.region rfl ?_
        refine JO.pur rfl rfl rfl (Pur.move rfl) ?_
        refine JO.pur rfl rfl rfl (Pur.move rfl) ?_
        refine JO.imp (M := GB p am cm bs X :: blk b2 (.cells #[.string k, .string o, .int .i64 root, .slice va vs.length vc] 24) :: L) (fun h s => SubC.out h s) ?_
        refine JO.effR rfl rfl rfl (Eff.call rfl (result_ok (g := X) (q := (w : Int)) u1)) ?_
        rw [hr]
        refine JO.pur rfl rfl rfl (Pur.move rfl) ?_
        refine JO.pur rfl rfl rfl (Pur.extract rfl rfl) ?_
        refine JO.pur rfl rfl rfl (Pur.extract rfl rfl) ?_
        refine JO.pur rfl rfl rfl (Pur.assign rfl) ?_
        refine JO.pur rfl rfl rfl (Pur.assign rfl) ?_
        refine JO.nil ?_
        refine J.seq rfl ?_
        refine J.region rfl ?_
        refine JO.pur rfl rfl rfl (Pur.move rfl) ?_
        refine JO.pur rfl rfl rfl (Pur.eqlT rfl rfl) ?_
        refine JO.pur rfl rfl rfl (Pur.move rfl) ?_
        refine JO.splitB 117 rfl (fun h117 => ?_) (fun h117 => ?_)
        · try simp only [decide_eq_true_eq, decide_eq_false_iff_not, Bool.not_eq_true', Bool.not_eq_false', Bool.and_eq_true, Bool.or_eq_true, Bool.and_eq_false_iff, Bool.or_eq_false_iff, Option.isNone_some, Option.isSome_some, Option.isNone_none, Option.isSome_none, Int.not_lt, Int.not_le, beq_iff_eq, beq_eq_false_iff_ne, bne_iff_ne, ne_eq, Bool.not_not, Decidable.not_not] at h117
          refine JO.pur rfl rfl rfl (Pur.move rfl) ?_
          refine JO.pur rfl rfl rfl (Pur.move rfl) ?_
          refine JO.pur rfl rfl rfl (Pur.neqI rfl rfl) ?_
          refine JO.pur rfl rfl rfl (Pur.move rfl) ?_
          refine JO.setv (u' := .bool false) 121 rfl (congrArg Value.bool (decide_eq_false (fun h => h (by rw [resT_scan h117])))) ?_
          refine JO.pur rfl rfl rfl (Pur.move rfl) ?_
          refine JO.pur rfl rfl rfl (Pur.neqI rfl rfl) ?_
          refine JO.pur rfl rfl rfl (Pur.pickF rfl rfl) ?_
          refine JO.pur rfl rfl rfl (Pur.pickT rfl rfl) ?_
          refine JO.nil ?_
          refine J.setv (u' := .bool false) 125 rfl (congrArg Value.bool (decide_eq_false (fun h => h (by rw [resT_scan h117])))) ?_
          refine J.condF rfl rfl ?_
          refine J.skip rfl ?_
          refine J.inBlock ?_
          refine J.region rfl ?_
          refine JO.pur rfl rfl rfl (Pur.move rfl) ?_
          refine JO.pur rfl rfl rfl (Pur.add rfl rfl (wr64 (by omega))) ?_
          refine JO.pur rfl rfl rfl (Pur.assign rfl) ?_
          refine JO.nil ?_
          exact J.weaken (.cons rfl rfl (.cons rfl (congrArg (Value.int .i64) (by first | rfl | (dsimp only; omega))) (.cons rfl rfl (.cons rfl rfl (.cons rfl rfl (.cons rfl rfl (.cons rfl rfl (.cons rfl rfl .nil)))))))) (fun h s => SubC.out h s) (ihw (w + 1) (by omega) (by omega))
        · try simp only [decide_eq_true_eq, decide_eq_false_iff_not, Bool.not_eq_true', Bool.not_eq_false', Bool.and_eq_true, Bool.or_eq_true, Bool.and_eq_false_iff, Bool.or_eq_false_iff, Option.isNone_some, Option.isSome_some, Option.isNone_none, Option.isSome_none, Int.not_lt, Int.not_le, beq_iff_eq, beq_eq_false_iff_ne, bne_iff_ne, ne_eq, Bool.not_not, Decidable.not_not] at h117
          refine JO.no rfl rfl rfl ?_
          refine JO.no rfl rfl rfl ?_
          refine JO.no rfl rfl rfl ?_
          refine JO.no rfl rfl rfl ?_
          refine JO.no rfl rfl rfl ?_
          refine JO.no rfl rfl rfl ?_
          refine JO.no rfl rfl rfl ?_
          refine JO.pur rfl rfl rfl (Pur.pickF rfl rfl) ?_
          refine JO.nil ?_
          refine J.condF rfl rfl ?_
          refine J.skip rfl ?_
          refine J.inBlock ?_
          refine J.region rfl ?_
          refine JO.pur rfl rfl rfl (Pur.move rfl) ?_
          refine JO.pur rfl rfl rfl (Pur.add rfl rfl (wr64 (by omega))) ?_
          refine JO.pur rfl rfl rfl (Pur.assign rfl) ?_
          refine JO.nil ?_
          exact J.weaken (.cons rfl rfl (.cons rfl (congrArg (Value.int .i64) (by first | rfl | (dsimp only; omega))) (.cons rfl rfl (.cons rfl rfl (.cons rfl rfl (.cons rfl rfl (.cons rfl rfl (.cons rfl rfl .nil)))))))) (fun h s => SubC.out h s) (ihw (w + 1) (by omega) (by omega))
      · try simp only [decide_eq_true_eq, decide_eq_false_iff_not, Bool.not_eq_true', Bool.not_eq_false', Bool.and_eq_true, Bool.or_eq_true, Bool.and_eq_false_iff, Bool.or_eq_false_iff, Option.isNone_some, Option.isSome_some, Option.isNone_none, Option.isSome_none, Int.not_lt, Int.not_le, beq_iff_eq, beq_eq_false_iff_ne, bne_iff_ne, ne_eq, Bool.not_not, Decidable.not_not] at h96
        have hw0 : w = 0 := by omega
        refine J.setv (u' := .int .i64 (accR o vs w)) 16 rfl (by rw [hw0]) ?_
        refine J.condF rfl rfl ?_
        refine J.skip rfl ?_
        refine J.seq rfl ?_
        refine J.region rfl ?_
        refine JO.pur rfl rfl rfl (Pur.move rfl) ?_
        refine JO.pur rfl rfl rfl (Pur.move rfl) ?_
        refine JO.imp (M := GB p am cm bs X :: blk b2 (.cells #[.string k, .string o, .int .i64 root, .slice va vs.length vc] 24) :: L) (fun h s => SubC.out h s) ?_
        refine JO.effR rfl rfl rfl (Eff.call rfl (result_ok (g := X) (q := (w : Int)) u1)) ?_
        rw [hr]
        refine JO.pur rfl rfl rfl (Pur.move rfl) ?_
        refine JO.pur rfl rfl rfl (Pur.extract rfl rfl) ?_
        refine JO.pur rfl rfl rfl (Pur.extract rfl rfl) ?_
        refine JO.pur rfl rfl rfl (Pur.assign rfl) ?_
        refine JO.pur rfl rfl rfl (Pur.assign rfl) ?_
        refine JO.nil ?_
        refine J.seq rfl ?_
        refine J.region rfl ?_
        refine JO.pur rfl rfl rfl (Pur.move rfl) ?_
        refine JO.pur rfl rfl rfl (Pur.eqlT rfl rfl) ?_
        refine JO.pur rfl rfl rfl (Pur.move rfl) ?_
        refine JO.splitB 117 rfl (fun h117 => ?_) (fun h117 => ?_)
        · try simp only [decide_eq_true_eq, decide_eq_false_iff_not, Bool.not_eq_true', Bool.not_eq_false', Bool.and_eq_true, Bool.or_eq_true, Bool.and_eq_false_iff, Bool.or_eq_false_iff, Option.isNone_some, Option.isSome_some, Option.isNone_none, Option.isSome_none, Int.not_lt, Int.not_le, beq_iff_eq, beq_eq_false_iff_ne, bne_iff_ne, ne_eq, Bool.not_not, Decidable.not_not] at h117
          refine JO.pur rfl rfl rfl (Pur.move rfl) ?_
          refine JO.pur rfl rfl rfl (Pur.move rfl) ?_
          refine JO.pur rfl rfl rfl (Pur.neqI rfl rfl) ?_
          refine JO.pur rfl rfl rfl (Pur.move rfl) ?_
          refine JO.setv (u' := .bool false) 121 rfl (congrArg Value.bool (decide_eq_false (fun h => h (by rw [resT_scan h117])))) ?_
          refine JO.pur rfl rfl rfl (Pur.move rfl) ?_
          refine JO.pur rfl rfl rfl (Pur.neqI rfl rfl) ?_
          refine JO.pur rfl rfl rfl (Pur.pickF rfl rfl) ?_
          refine JO.pur rfl rfl rfl (Pur.pickT rfl rfl) ?_
          refine JO.nil ?_
          refine J.setv (u' := .bool false) 125 rfl (congrArg Value.bool (decide_eq_false (fun h => h (by rw [resT_scan h117])))) ?_
          refine J.condF rfl rfl ?_
          refine J.skip rfl ?_
          refine J.inBlock ?_
          refine J.region rfl ?_
          refine JO.pur rfl rfl rfl (Pur.move rfl) ?_
          refine JO.pur rfl rfl rfl (Pur.add rfl rfl (wr64 (by omega))) ?_
          refine JO.pur rfl rfl rfl (Pur.assign rfl) ?_
          refine JO.nil ?_
          exact J.weaken (.cons rfl rfl (.cons rfl (congrArg (Value.int .i64) (by first | rfl | (dsimp only; omega))) (.cons rfl rfl (.cons rfl rfl (.cons rfl rfl (.cons rfl rfl (.cons rfl rfl (.cons rfl rfl .nil)))))))) (fun h s => SubC.out h s) (ihw (w + 1) (by omega) (by omega))
        · try simp only [decide_eq_true_eq, decide_eq_false_iff_not, Bool.not_eq_true', Bool.not_eq_false', Bool.and_eq_true, Bool.or_eq_true, Bool.and_eq_false_iff, Bool.or_eq_false_iff, Option.isNone_some, Option.isSome_some, Option.isNone_none, Option.isSome_none, Int.not_lt, Int.not_le, beq_iff_eq, beq_eq_false_iff_ne, bne_iff_ne, ne_eq, Bool.not_not, Decidable.not_not] at h117
          refine JO.no rfl rfl rfl ?_
          refine JO.no rfl rfl rfl ?_
          refine JO.no rfl rfl rfl ?_
          refine JO.no rfl rfl rfl ?_
          refine JO.no rfl rfl rfl ?_
          refine JO.no rfl rfl rfl ?_
          refine JO.no rfl rfl rfl ?_
          refine JO.pur rfl rfl rfl (Pur.pickF rfl rfl) ?_
          refine JO.nil ?_
          refine J.condF rfl rfl ?_
          refine J.skip rfl ?_
          refine J.inBlock ?_
          refine J.region rfl ?_
          refine JO.pur rfl rfl rfl (Pur.move rfl) ?_
          refine JO.pur rfl rfl rfl (Pur.add rfl rfl (wr64 (by omega))) ?_
          refine JO.pur rfl rfl rfl (Pur.assign rfl) ?_
          refine JO.nil ?_
          exact J.weaken (.cons rfl rfl (.cons rfl (congrArg (Value.int .i64) (by first | rfl | (dsimp only; omega))) (.cons rfl rfl (.cons rfl rfl (.cons rfl rfl (.cons rfl rfl (.cons rfl rfl (.cons rfl rfl .nil)))))))) (fun h s => SubC.out h s) (ihw (w + 1) (by omega) (by omega))
    · try simp only [decide_eq_true_eq, decide_eq_false_iff_not, Bool.not_eq_true', Bool.not_eq_false', Bool.and_eq_true, Bool.or_eq_true, Bool.and_eq_false_iff, Bool.or_eq_false_iff, Option.isNone_some, Option.isSome_some, Option.isNone_none, Option.isSome_none, Int.not_lt, Int.not_le, beq_iff_eq, beq_eq_false_iff_ne, bne_iff_ne, ne_eq, Bool.not_not, Decidable.not_not] at h92
      have hwn : w - 1 = vs.length - 1 := by omega
      refine J.condF rfl rfl ?_
      refine J.exit rfl rfl ?_
      refine J.seq rfl ?_
      refine J.seq rfl ?_
      refine J.region rfl ?_
      refine JO.pur rfl rfl rfl (Pur.assign rfl) ?_
      refine JO.nil ?_
      refine J.block rfl ?_
      rw [hwn]
      refine J.loopF (ι := Nat) (fun y => y ≤ vs.length) (fun y => [(20, .int .i64 (y : Int))]) [(5, _), (7, _), (8, _), (9, _), (11, _), (16, _)] (fun y => GB p am cm bs X :: blk b2 (.cells #[.string k, .string o, .int .i64 root, .slice va vs.length vc] 24) :: L) (fun y => vs.length - y) 0 rfl (.cons rfl rfl (.cons rfl rfl (.cons rfl rfl (.cons rfl rfl (.cons rfl rfl (.cons rfl rfl .nil)))))) (.cons rfl rfl .nil) (by first | exact fun _ h => h | exact SubC.out | (dsimp only; exact SubC.out)) (Nat.zero_le _) ?_
      rintro y hy ihy
      try dsimp only
      refine J.seq rfl ?_
      refine J.seq rfl ?_
      refine J.region rfl ?_
      refine JO.pur rfl rfl rfl (Pur.move rfl) ?_
      refine JO.pur rfl rfl rfl (Pur.move rfl) ?_
      refine JO.pur rfl rfl rfl (Pur.lss rfl rfl) ?_
      refine JO.nil ?_
      refine J.splitB 128 rfl (fun h128 => ?_) (fun h128 => ?_)
      · try simp only [decide_eq_true_eq, decide_eq_false_iff_not, Bool.not_eq_true', Bool.not_eq_false', Bool.and_eq_true, Bool.or_eq_true, Bool.and_eq_false_iff, Bool.or_eq_false_iff, Option.isNone_some, Option.isSome_some, Option.isNone_none, Option.isSome_none, Int.not_lt, Int.not_le, beq_iff_eq, beq_eq_false_iff_ne, bne_iff_ne, ne_eq, Bool.not_not, Decidable.not_not] at h128
        have hr := e2 y (by omega)
        refine J.condT rfl rfl ?_
        refine J.skip rfl ?_
        refine J.seq rfl ?_
        refine J.block rfl ?_
        refine J.seq rfl ?_
        refine J.region rfl ?_
        refine JO.pur rfl rfl rfl (Pur.move rfl) ?_
        refine JO.pur rfl rfl rfl (Pur.move rfl) ?_
        refine JO.effR rfl rfl rfl (Eff.call rfl (result_ok (g := X) (q := (y : Int)) u1)) ?_
        rw [hr]
        refine JO.pur rfl rfl rfl (Pur.move rfl) ?_
        refine JO.pur rfl rfl rfl (Pur.extract rfl rfl) ?_
        refine JO.pur rfl rfl rfl (Pur.extract rfl rfl) ?_
        refine JO.pur rfl rfl rfl (Pur.assign rfl) ?_
        refine JO.pur rfl rfl rfl (Pur.assign rfl) ?_
        refine JO.nil ?_
        refine J.block rfl ?_
        refine J.seq rfl ?_
        refine J.region rfl ?_
        refine JO.pur rfl rfl rfl (Pur.move rfl) ?_
        refine JO.pur rfl rfl rfl (Pur.eqlT rfl rfl) ?_
        refine JO.pur rfl rfl rfl (Pur.move rfl) ?_
        refine JO.splitB 140 rfl (fun h140 => ?_) (fun h140 => ?_)
        · try simp only [decide_eq_true_eq, decide_eq_false_iff_not, Bool.not_eq_true', Bool.not_eq_false', Bool.and_eq_true, Bool.or_eq_true, Bool.and_eq_false_iff, Bool.or_eq_false_iff, Option.isNone_some, Option.isSome_some, Option.isNone_none, Option.isSome_none, Int.not_lt, Int.not_le, beq_iff_eq, beq_eq_false_iff_ne, bne_iff_ne, ne_eq, Bool.not_not, Decidable.not_not] at h140
          have hrt := g5 (by rw [h140]; decide)
          have hXr : vs[root.toNat]? = some (vs.getD root.toNat 0) := by rw [List.getD_eq_getElem?_getD, List.getElem?_eq_getElem (by omega)]; rfl
          refine JO.pur rfl rfl rfl (Pur.move rfl) ?_
          refine JO.pur rfl rfl rfl (Pur.move rfl) ?_
          refine JO.pur rfl rfl rfl (Pur.move rfl) ?_
          refine JO.pur rfl rfl rfl (Pur.idx rfl rfl rfl (by first | rfl | (simp; done) | omega) (show root = ((root.toNat : Nat) : Int) by omega) (by omega)) ?_
          refine JO.pur rfl rfl rfl (Pur.load rfl (CellIn.el0 rfl hXr rfl)) ?_
          refine JO.setv (u' := .int .i64 (vs.getD root.toNat 0)) 145 rfl rfl ?_
          refine JO.pur rfl rfl rfl (Pur.neqI rfl rfl) ?_
          refine JO.pur rfl rfl rfl (Pur.move rfl) ?_
          refine JO.setv (u' := .bool false) 147 rfl (congrArg Value.bool (decide_eq_false (fun h => h (by rw [resT_cast h140])))) ?_
          refine JO.pur rfl rfl rfl (Pur.move rfl) ?_
          refine JO.pur rfl rfl rfl (Pur.neqI rfl rfl) ?_
          refine JO.pur rfl rfl rfl (Pur.pickF rfl rfl) ?_
          refine JO.pur rfl rfl rfl (Pur.pickT rfl rfl) ?_
          refine JO.pur rfl rfl rfl (Pur.assign rfl) ?_
          refine JO.nil ?_
          refine J.setv (u' := .bool false) 137 rfl (congrArg Value.bool (decide_eq_false (fun h => h (by rw [resT_cast h140])))) ?_
          refine J.condF rfl rfl ?_
          refine J.seq rfl ?_
          refine J.region rfl ?_
          refine JO.pur rfl rfl rfl (Pur.move rfl) ?_
          refine JO.pur rfl rfl rfl (Pur.eqlT rfl rfl) ?_
          refine JO.pur rfl rfl rfl (Pur.move rfl) ?_
          refine JO.splitB 155 rfl (fun h155 => ?_) (fun h155 => ?_)
          · try simp only [decide_eq_true_eq, decide_eq_false_iff_not, Bool.not_eq_true', Bool.not_eq_false', Bool.and_eq_true, Bool.or_eq_true, Bool.and_eq_false_iff, Bool.or_eq_false_iff, Option.isNone_some, Option.isSome_some, Option.isNone_none, Option.isSome_none, Int.not_lt, Int.not_le, beq_iff_eq, beq_eq_false_iff_ne, bne_iff_ne, ne_eq, Bool.not_not, Decidable.not_not] at h155
            first
            | (exfalso; revert h155; first | (rw [h140]; decide))
            | refine JO.pur rfl rfl rfl (Pur.move rfl) ?_
              refine JO.pur rfl rfl rfl (Pur.neqI rfl rfl) ?_
              refine JO.pur rfl rfl rfl (Pur.move rfl) ?_
              refine JO.setv (u' := .bool false) 158 rfl (congrArg Value.bool (decide_eq_false (fun h => h (by rw [resT_bar h155])))) ?_
              refine JO.pur rfl rfl rfl (Pur.move rfl) ?_
              refine JO.pur rfl rfl rfl (Pur.neqI rfl rfl) ?_
              refine JO.pur rfl rfl rfl (Pur.pickF rfl rfl) ?_
              refine JO.pur rfl rfl rfl (Pur.pickT rfl rfl) ?_
              refine JO.pur rfl rfl rfl (Pur.assign rfl) ?_
              refine JO.nil ?_
              refine J.setv (u' := .bool false) 152 rfl (congrArg Value.bool (decide_eq_false (fun h => h (by rw [resT_bar h155])))) ?_
              refine J.condF rfl rfl ?_
              refine J.seq rfl ?_
              refine J.region rfl ?_
              refine JO.pur rfl rfl rfl (Pur.move rfl) ?_
              refine JO.pur rfl rfl rfl (Pur.eqlT rfl rfl) ?_
              refine JO.pur rfl rfl rfl (Pur.move rfl) ?_
              refine JO.splitB 166 rfl (fun h166 => ?_) (fun h166 => ?_)
              · try simp only [decide_eq_true_eq, decide_eq_false_iff_not, Bool.not_eq_true', Bool.not_eq_false', Bool.and_eq_true, Bool.or_eq_true, Bool.and_eq_false_iff, Bool.or_eq_false_iff, Option.isNone_some, Option.isSome_some, Option.isNone_none, Option.isSome_none, Int.not_lt, Int.not_le, beq_iff_eq, beq_eq_false_iff_ne, bne_iff_ne, ne_eq, Bool.not_not, Decidable.not_not] at h166
                first
                | (exfalso; revert h166; first | (rw [h140]; decide) | (rw [h155]; decide))
                | refine JO.pur rfl rfl rfl (Pur.move rfl) ?_
                  refine JO.pur rfl rfl rfl (Pur.move rfl) ?_
                  refine JO.pur rfl rfl rfl (Pur.neqI rfl rfl) ?_
                  refine JO.pur rfl rfl rfl (Pur.move rfl) ?_
                  refine JO.setv (u' := .bool false) 170 rfl (congrArg Value.bool (decide_eq_false (fun h => h (by rw [resT_all h166])))) ?_
                  refine JO.pur rfl rfl rfl (Pur.move rfl) ?_
                  refine JO.pur rfl rfl rfl (Pur.neqI rfl rfl) ?_
                  refine JO.pur rfl rfl rfl (Pur.pickF rfl rfl) ?_
                  refine JO.pur rfl rfl rfl (Pur.pickT rfl rfl) ?_
                  refine JO.pur rfl rfl rfl (Pur.assign rfl) ?_
                  refine JO.nil ?_
                  refine J.setv (u' := .bool false) 163 rfl (congrArg Value.bool (decide_eq_false (fun h => h (by rw [resT_all h166])))) ?_
                  refine J.condF rfl rfl ?_
                  refine J.seq rfl ?_
                  refine J.region rfl ?_
                  refine JO.pur rfl rfl rfl (Pur.move rfl) ?_
                  refine JO.pur rfl rfl rfl (Pur.eqlT rfl rfl) ?_
                  refine JO.pur rfl rfl rfl (Pur.move rfl) ?_
                  refine JO.splitB 178 rfl (fun h178 => ?_) (fun h178 => ?_)
                  · try simp only [decide_eq_true_eq, decide_eq_false_iff_not, Bool.not_eq_true', Bool.not_eq_false', Bool.and_eq_true, Bool.or_eq_true, Bool.and_eq_false_iff, Bool.or_eq_false_iff, Option.isNone_some, Option.isSome_some, Option.isNone_none, Option.isSome_none, Int.not_lt, Int.not_le, beq_iff_eq, beq_eq_false_iff_ne, bne_iff_ne, ne_eq, Bool.not_not, Decidable.not_not] at h178
                    first
                    | (exfalso; revert h178; first | (rw [h140]; decide) | (rw [h155]; decide) | (rw [h166]; decide))
                    | refine JO.pur rfl rfl rfl (Pur.move rfl) ?_
                      refine JO.pur rfl rfl rfl (Pur.move rfl) ?_
                      refine JO.pur rfl rfl rfl (Pur.eqlI rfl rfl) ?_
                      refine JO.pur rfl rfl rfl (Pur.pickT rfl rfl) ?_
                      refine JO.pur rfl rfl rfl (Pur.move rfl) ?_
                      refine JO.splitB 183 rfl (fun h183 => ?_) (fun h183 => ?_)
                      · try simp only [decide_eq_true_eq, decide_eq_false_iff_not, Bool.not_eq_true', Bool.not_eq_false', Bool.and_eq_true, Bool.or_eq_true, Bool.and_eq_false_iff, Bool.or_eq_false_iff, Option.isNone_some, Option.isSome_some, Option.isNone_none, Option.isSome_none, Int.not_lt, Int.not_le, beq_iff_eq, beq_eq_false_iff_ne, bne_iff_ne, ne_eq, Bool.not_not, Decidable.not_not] at h183
                        refine JO.pur rfl rfl rfl (Pur.move rfl) ?_
                        refine JO.pur rfl rfl rfl (Pur.move rfl) ?_
                        refine JO.pur rfl rfl rfl (Pur.neqI rfl rfl) ?_
                        refine JO.pur rfl rfl rfl (Pur.move rfl) ?_
                        refine JO.setv (u' := .bool false) 187 rfl (congrArg Value.bool (decide_eq_false (fun h => h (by rw [resT_red1 h178 h183])))) ?_
                        refine JO.pur rfl rfl rfl (Pur.move rfl) ?_
                        refine JO.pur rfl rfl rfl (Pur.neqI rfl rfl) ?_
                        refine JO.pur rfl rfl rfl (Pur.pickF rfl rfl) ?_
                        refine JO.pur rfl rfl rfl (Pur.pickT rfl rfl) ?_
                        refine JO.pur rfl rfl rfl (Pur.assign rfl) ?_
                        refine JO.nil ?_
                        refine J.setv (u' := .bool false) 175 rfl (congrArg Value.bool (decide_eq_false (fun h => h (by rw [resT_red1 h178 h183])))) ?_
                        refine J.condF rfl rfl ?_
                        refine J.seq rfl ?_
                        refine J.region rfl ?_
                        refine JO.pur rfl rfl rfl (Pur.move rfl) ?_
                        refine JO.pur rfl rfl rfl (Pur.eqlT rfl rfl) ?_
                        refine JO.pur rfl rfl rfl (Pur.move rfl) ?_
                        refine JO.splitB 195 rfl (fun h195 => ?_) (fun h195 => ?_)
                        · try simp only [decide_eq_true_eq, decide_eq_false_iff_not, Bool.not_eq_true', Bool.not_eq_false', Bool.and_eq_true, Bool.or_eq_true, Bool.and_eq_false_iff, Bool.or_eq_false_iff, Option.isNone_some, Option.isSome_some, Option.isNone_none, Option.isSome_none, Int.not_lt, Int.not_le, beq_iff_eq, beq_eq_false_iff_ne, bne_iff_ne, ne_eq, Bool.not_not, Decidable.not_not] at h195
                          first
                          | first | exact absurd h195 h178 | exact absurd h178 h195
                          | refine JO.pur rfl rfl rfl (Pur.move rfl) ?_
                            refine JO.pur rfl rfl rfl (Pur.move rfl) ?_
                            refine JO.pur rfl rfl rfl (Pur.neqI rfl rfl) ?_
                            refine JO.pur rfl rfl rfl (Pur.pickT rfl rfl) ?_
                            refine JO.pur rfl rfl rfl (Pur.move rfl) ?_
                            refine JO.splitB 200 rfl (fun h200 => ?_) (fun h200 => ?_)
                            · try simp only [decide_eq_true_eq, decide_eq_false_iff_not, Bool.not_eq_true', Bool.not_eq_false', Bool.and_eq_true, Bool.or_eq_true, Bool.and_eq_false_iff, Bool.or_eq_false_iff, Option.isNone_some, Option.isSome_some, Option.isNone_none, Option.isSome_none, Int.not_lt, Int.not_le, beq_iff_eq, beq_eq_false_iff_ne, bne_iff_ne, ne_eq, Bool.not_not, Decidable.not_not] at h200
                              first
                              | first | exact absurd h183 h200 | exact absurd h200 h183
                              | refine JO.pur rfl rfl rfl (Pur.move rfl) ?_
                                refine JO.pur rfl rfl rfl (Pur.neqI rfl rfl) ?_
                                refine JO.pur rfl rfl rfl (Pur.pickT rfl rfl) ?_
                                refine JO.pur rfl rfl rfl (Pur.assign rfl) ?_
                                refine JO.nil ?_
                                refine J.setv (u' := .bool false) 192 rfl (congrArg Value.bool (decide_eq_false (fun h => h (by rw [resT_red2 h195 h200])))) ?_
                                refine J.condF rfl rfl ?_
                                refine J.skip rfl ?_
                                refine J.inBlock ?_
                                refine J.inBlock ?_
                                refine J.region rfl ?_
                                refine JO.pur rfl rfl rfl (Pur.move rfl) ?_
                                refine JO.pur rfl rfl rfl (Pur.add rfl rfl (wr64 (by omega))) ?_
                                refine JO.pur rfl rfl rfl (Pur.assign rfl) ?_
                                refine JO.nil ?_
                                exact J.weaken (.cons rfl (congrArg (Value.int .i64) (by first | rfl | (dsimp only; omega))) (.cons rfl rfl (.cons rfl rfl (.cons rfl rfl (.cons rfl rfl (.cons rfl rfl (.cons rfl rfl .nil))))))) (by first | exact fun _ h => h | exact SubC.out | (dsimp only; exact SubC.out)) (ihy (y + 1) (by omega) (by omega))
                            · try simp only [decide_eq_true_eq, decide_eq_false_iff_not, Bool.not_eq_true', Bool.not_eq_false', Bool.and_eq_true, Bool.or_eq_true, Bool.and_eq_false_iff, Bool.or_eq_false_iff, Option.isNone_some, Option.isSome_some, Option.isNone_none, Option.isSome_none, Int.not_lt, Int.not_le, beq_iff_eq, beq_eq_false_iff_ne, bne_iff_ne, ne_eq, Bool.not_not, Decidable.not_not] at h200
                              first
                              | first | exact absurd h183 h200 | exact absurd h200 h183
                              | refine JO.no rfl rfl rfl ?_
                                refine JO.no rfl rfl rfl ?_
                                refine JO.pur rfl rfl rfl (Pur.pickF rfl rfl) ?_
                                refine JO.pur rfl rfl rfl (Pur.assign rfl) ?_
                                refine JO.nil ?_
                                refine J.condF rfl rfl ?_
                                refine J.skip rfl ?_
                                refine J.inBlock ?_
                                refine J.inBlock ?_
                                refine J.region rfl ?_
                                refine JO.pur rfl rfl rfl (Pur.move rfl) ?_
                                refine JO.pur rfl rfl rfl (Pur.add rfl rfl (wr64 (by omega))) ?_
                                refine JO.pur rfl rfl rfl (Pur.assign rfl) ?_
                                refine JO.nil ?_
                                exact J.weaken (.cons rfl (congrArg (Value.int .i64) (by first | rfl | (dsimp only; omega))) (.cons rfl rfl (.cons rfl rfl (.cons rfl rfl (.cons rfl rfl (.cons rfl rfl (.cons rfl rfl .nil))))))) (by first | exact fun _ h => h | exact SubC.out | (dsimp only; exact SubC.out)) (ihy (y + 1) (by omega) (by omega))
                        · try simp only [decide_eq_true_eq, decide_eq_false_iff_not, Bool.not_eq_true', Bool.not_eq_false', Bool.and_eq_true, Bool.or_eq_true, Bool.and_eq_false_iff, Bool.or_eq_false_iff, Option.isNone_some, Option.isSome_some, Option.isNone_none, Option.isSome_none, Int.not_lt, Int.not_le, beq_iff_eq, beq_eq_false_iff_ne, bne_iff_ne, ne_eq, Bool.not_not, Decidable.not_not] at h195
                          first
                          | first | exact absurd h195 h178 | exact absurd h178 h195
                          | refine JO.no rfl rfl rfl ?_
                            refine JO.no rfl rfl rfl ?_
                            refine JO.no rfl rfl rfl ?_
                            refine JO.pur rfl rfl rfl (Pur.pickF rfl rfl) ?_
                            refine JO.pur rfl rfl rfl (Pur.move rfl) ?_
                            refine JO.no rfl rfl rfl ?_
                            refine JO.no rfl rfl rfl ?_
                            refine JO.pur rfl rfl rfl (Pur.pickF rfl rfl) ?_
                            refine JO.pur rfl rfl rfl (Pur.assign rfl) ?_
                            refine JO.nil ?_
                            refine J.condF rfl rfl ?_
                            refine J.skip rfl ?_
                            refine J.inBlock ?_
                            refine J.inBlock ?_
                            refine J.region rfl ?_
                            refine JO.pur rfl rfl rfl (Pur.move rfl) ?_
                            refine JO.pur rfl rfl rfl (Pur.add rfl rfl (wr64 (by omega))) ?_
                            refine JO.pur rfl rfl rfl (Pur.assign rfl) ?_
                            refine JO.nil ?_
                            exact J.weaken (.cons rfl (congrArg (Value.int .i64) (by first | rfl | (dsimp only; omega))) (.cons rfl rfl (.cons rfl rfl (.cons rfl rfl (.cons rfl rfl (.cons rfl rfl (.cons rfl rfl .nil))))))) (by first | exact fun _ h => h | exact SubC.out | (dsimp only; exact SubC.out)) (ihy (y + 1) (by omega) (by omega))
                      · try simp only [decide_eq_true_eq, decide_eq_false_iff_not, Bool.not_eq_true', Bool.not_eq_false', Bool.and_eq_true, Bool.or_eq_true, Bool.and_eq_false_iff, Bool.or_eq_false_iff, Option.isNone_some, Option.isSome_some, Option.isNone_none, Option.isSome_none, Int.not_lt, Int.not_le, beq_iff_eq, beq_eq_false_iff_ne, bne_iff_ne, ne_eq, Bool.not_not, Decidable.not_not] at h183
                        refine JO.no rfl rfl rfl ?_
                        refine JO.no rfl rfl rfl ?_
                        refine JO.no rfl rfl rfl ?_
                        refine JO.no rfl rfl rfl ?_
                        refine JO.no rfl rfl rfl ?_
                        refine JO.no rfl rfl rfl ?_
                        refine JO.no rfl rfl rfl ?_
                        refine JO.pur rfl rfl rfl (Pur.pickF rfl rfl) ?_
                        refine JO.pur rfl rfl rfl (Pur.assign rfl) ?_
                        refine JO.nil ?_
                        refine J.condF rfl rfl ?_
                        refine J.seq rfl ?_
                        refine J.region rfl ?_
                        refine JO.pur rfl rfl rfl (Pur.move rfl) ?_
                        refine JO.pur rfl rfl rfl (Pur.eqlT rfl rfl) ?_
                        refine JO.pur rfl rfl rfl (Pur.move rfl) ?_
                        refine JO.splitB 195 rfl (fun h195 => ?_) (fun h195 => ?_)
                        · try simp only [decide_eq_true_eq, decide_eq_false_iff_not, Bool.not_eq_true', Bool.not_eq_false', Bool.and_eq_true, Bool.or_eq_true, Bool.and_eq_false_iff, Bool.or_eq_false_iff, Option.isNone_some, Option.isSome_some, Option.isNone_none, Option.isSome_none, Int.not_lt, Int.not_le, beq_iff_eq, beq_eq_false_iff_ne, bne_iff_ne, ne_eq, Bool.not_not, Decidable.not_not] at h195
                          first
                          | first | exact absurd h195 h178 | exact absurd h178 h195
                          | refine JO.pur rfl rfl rfl (Pur.move rfl) ?_
                            refine JO.pur rfl rfl rfl (Pur.move rfl) ?_
                            refine JO.pur rfl rfl rfl (Pur.neqI rfl rfl) ?_
                            refine JO.pur rfl rfl rfl (Pur.pickT rfl rfl) ?_
                            refine JO.pur rfl rfl rfl (Pur.move rfl) ?_
                            refine JO.splitB 200 rfl (fun h200 => ?_) (fun h200 => ?_)
                            · try simp only [decide_eq_true_eq, decide_eq_false_iff_not, Bool.not_eq_true', Bool.not_eq_false', Bool.and_eq_true, Bool.or_eq_true, Bool.and_eq_false_iff, Bool.or_eq_false_iff, Option.isNone_some, Option.isSome_some, Option.isNone_none, Option.isSome_none, Int.not_lt, Int.not_le, beq_iff_eq, beq_eq_false_iff_ne, bne_iff_ne, ne_eq, Bool.not_not, Decidable.not_not] at h200
                              first
                              | first | exact absurd h183 h200 | exact absurd h200 h183
                              | refine JO.pur rfl rfl rfl (Pur.move rfl) ?_
                                refine JO.pur rfl rfl rfl (Pur.neqI rfl rfl) ?_
                                refine JO.pur rfl rfl rfl (Pur.pickT rfl rfl) ?_
                                refine JO.pur rfl rfl rfl (Pur.assign rfl) ?_
                                refine JO.nil ?_
                                refine J.setv (u' := .bool false) 192 rfl (congrArg Value.bool (decide_eq_false (fun h => h (by rw [resT_red2 h195 h200])))) ?_
                                refine J.condF rfl rfl ?_
                                refine J.skip rfl ?_
                                refine J.inBlock ?_
                                refine J.inBlock ?_
                                refine J.region rfl ?_
                                refine JO.pur rfl rfl rfl (Pur.move rfl) ?_
                                refine JO.pur rfl rfl rfl (Pur.add rfl rfl (wr64 (by omega))) ?_
                                refine JO.pur rfl rfl rfl (Pur.assign rfl) ?_
                                refine JO.nil ?_
                                exact J.weaken (.cons rfl (congrArg (Value.int .i64) (by first | rfl | (dsimp only; omega))) (.cons rfl rfl (.cons rfl rfl (.cons rfl rfl (.cons rfl rfl (.cons rfl rfl (.cons rfl rfl .nil))))))) (by first | exact fun _ h => h | exact SubC.out | (dsimp only; exact SubC.out)) (ihy (y + 1) (by omega) (by omega))
                            · try simp only [decide_eq_true_eq, decide_eq_false_iff_not, Bool.not_eq_true', Bool.not_eq_false', Bool.and_eq_true, Bool.or_eq_true, Bool.and_eq_false_iff, Bool.or_eq_false_iff, Option.isNone_some, Option.isSome_some, Option.isNone_none, Option.isSome_none, Int.not_lt, Int.not_le, beq_iff_eq, beq_eq_false_iff_ne, bne_iff_ne, ne_eq, Bool.not_not, Decidable.not_not] at h200
                              first
                              | first | exact absurd h183 h200 | exact absurd h200 h183
                              | refine JO.no rfl rfl rfl ?_
                                refine JO.no rfl rfl rfl ?_
                                refine JO.pur rfl rfl rfl (Pur.pickF rfl rfl) ?_
                                refine JO.pur rfl rfl rfl (Pur.assign rfl) ?_
                                refine JO.nil ?_
                                refine J.condF rfl rfl ?_
                                refine J.skip rfl ?_
                                refine J.inBlock ?_
                                refine J.inBlock ?_
                                refine J.region rfl ?_
                                refine JO.pur rfl rfl rfl (Pur.move rfl) ?_
                                refine JO.pur rfl rfl rfl (Pur.add rfl rfl (wr64 (by omega))) ?_
                                refine JO.pur rfl rfl rfl (Pur.assign rfl) ?_
                                refine JO.nil ?_
                                exact J.weaken (.cons rfl (congrArg (Value.int .i64) (by first | rfl | (dsimp only; omega))) (.cons rfl rfl (.cons rfl rfl (.cons rfl rfl (.cons rfl rfl (.cons rfl rfl (.cons rfl rfl .nil))))))) (by first | exact fun _ h => h | exact SubC.out | (dsimp only; exact SubC.out)) (ihy (y + 1) (by omega) (by omega))
                        · try simp only [decide_eq_true_eq, decide_eq_false_iff_not, Bool.not_eq_true', Bool.not_eq_false', Bool.and_eq_true, Bool.or_eq_true, Bool.and_eq_false_iff, Bool.or_eq_false_iff, Option.isNone_some, Option.isSome_some, Option.isNone_none, Option.isSome_none, Int.not_lt, Int.not_le, beq_iff_eq, beq_eq_false_iff_ne, bne_iff_ne, ne_eq, Bool.not_not, Decidable.not_not] at h195
                          first
                          | first | exact absurd h195 h178 | exact absurd h178 h195
                          | refine JO.no rfl rfl rfl ?_
                            refine JO.no rfl rfl rfl ?_
                            refine JO.no rfl rfl rfl ?_
                            refine JO.pur rfl rfl rfl (Pur.pickF rfl rfl) ?_
                            refine JO.pur rfl rfl rfl (Pur.move rfl) ?_
                            refine JO.no rfl rfl rfl ?_
                            refine JO.no rfl rfl rfl ?_
                            refine JO.pur rfl rfl rfl (Pur.pickF rfl rfl) ?_
                            refine JO.pur rfl rfl rfl (Pur.assign rfl) ?_
                            refine JO.nil ?_
                            refine J.condF rfl rfl ?_
                            refine J.skip rfl ?_
                            refine J.inBlock ?_
                            refine J.inBlock ?_
                            refine J.region rfl ?_
                            refine JO.pur rfl rfl rfl (Pur.move rfl) ?_
                            refine JO.pur rfl rfl rfl (Pur.add rfl rfl (wr64 (by omega))) ?_
                            refine JO.pur rfl rfl rfl (Pur.assign rfl) ?_
                            refine JO.nil ?_
                            exact J.weaken (.cons rfl (congrArg (Value.int .i64) (by first | rfl | (dsimp only; omega))) (.cons rfl rfl (.cons rfl rfl (.cons rfl rfl (.cons rfl rfl (.cons rfl rfl (.cons rfl rfl .nil))))))) (by first | exact fun _ h => h | exact SubC.out | (dsimp only; exact SubC.out)) (ihy (y + 1) (by omega) (by omega))
                  · try simp only [decide_eq_true_eq, decide_eq_false_iff_not, Bool.not_eq_true', Bool.not_eq_false', Bool.and_eq_true, Bool.or_eq_true, Bool.and_eq_false_iff, Bool.or_eq_false_iff, Option.isNone_some, Option.isSome_some, Option.isNone_none, Option.isSome_none, Int.not_lt, Int.not_le, beq_iff_eq, beq_eq_false_iff_ne, bne_iff_ne, ne_eq, Bool.not_not, Decidable.not_not] at h178
                    first
                    | (exfalso; revert h178; first | (rw [h140]; decide) | (rw [h155]; decide) | (rw [h166]; decide))
                    | refine JO.no rfl rfl rfl ?_
                      refine JO.no rfl rfl rfl ?_
                      refine JO.no rfl rfl rfl ?_
                      refine JO.pur rfl rfl rfl (Pur.pickF rfl rfl) ?_
                      refine JO.pur rfl rfl rfl (Pur.move rfl) ?_
                      refine JO.no rfl rfl rfl ?_
                      refine JO.no rfl rfl rfl ?_
                      refine JO.no rfl rfl rfl ?_
                      refine JO.no rfl rfl rfl ?_
                      refine JO.no rfl rfl rfl ?_
                      refine JO.no rfl rfl rfl ?_
                      refine JO.no rfl rfl rfl ?_
                      refine JO.pur rfl rfl rfl (Pur.pickF rfl rfl) ?_
                      refine JO.pur rfl rfl rfl (Pur.assign rfl) ?_
                      refine JO.nil ?_
                      refine J.condF rfl rfl ?_
                      refine J.seq rfl ?_
                      refine J.region rfl ?_
                      refine JO.pur rfl rfl rfl (Pur.move rfl) ?_
                      refine JO.pur rfl rfl rfl (Pur.eqlT rfl rfl) ?_
                      refine JO.pur rfl rfl rfl (Pur.move rfl) ?_
                      refine JO.splitB 195 rfl (fun h195 => ?_) (fun h195 => ?_)
                      · try simp only [decide_eq_true_eq, decide_eq_false_iff_not, Bool.not_eq_true', Bool.not_eq_false', Bool.and_eq_true, Bool.or_eq_true, Bool.and_eq_false_iff, Bool.or_eq_false_iff, Option.isNone_some, Option.isSome_some, Option.isNone_none, Option.isSome_none, Int.not_lt, Int.not_le, beq_iff_eq, beq_eq_false_iff_ne, bne_iff_ne, ne_eq, Bool.not_not, Decidable.not_not] at h195
                        first
                        | first | exact absurd h195 h178 | exact absurd h178 h195
                        | refine JO.pur rfl rfl rfl (Pur.move rfl) ?_
                          refine JO.pur rfl rfl rfl (Pur.move rfl) ?_
                          refine JO.pur rfl rfl rfl (Pur.neqI rfl rfl) ?_
                          refine JO.pur rfl rfl rfl (Pur.pickT rfl rfl) ?_
                          refine JO.pur rfl rfl rfl (Pur.move rfl) ?_
                          refine JO.splitB 200 rfl (fun h200 => ?_) (fun h200 => ?_)
                          · try simp only [decide_eq_true_eq, decide_eq_false_iff_not, Bool.not_eq_true', Bool.not_eq_false', Bool.and_eq_true, Bool.or_eq_true, Bool.and_eq_false_iff, Bool.or_eq_false_iff, Option.isNone_some, Option.isSome_some, Option.isNone_none, Option.isSome_none, Int.not_lt, Int.not_le, beq_iff_eq, beq_eq_false_iff_ne, bne_iff_ne, ne_eq, Bool.not_not, Decidable.not_not] at h200
                            first
                            | first | exact absurd h183 h200 | exact absurd h200 h183
                            | refine JO.pur rfl rfl rfl (Pur.move rfl) ?_
                              refine JO.pur rfl rfl rfl (Pur.neqI rfl rfl) ?_
                              refine JO.pur rfl rfl rfl (Pur.pickT rfl rfl) ?_
                              refine JO.pur rfl rfl rfl (Pur.assign rfl) ?_
                              refine JO.nil ?_
                              refine J.setv (u' := .bool false) 192 rfl (congrArg Value.bool (decide_eq_false (fun h => h (by rw [resT_red2 h195 h200])))) ?_
                              refine J.condF rfl rfl ?_
                              refine J.skip rfl ?_
                              refine J.inBlock ?_
                              refine J.inBlock ?_
                              refine J.region rfl ?_
                              refine JO.pur rfl rfl rfl (Pur.move rfl) ?_
                              refine JO.pur rfl rfl rfl (Pur.add rfl rfl (wr64 (by omega))) ?_
                              refine JO.pur rfl rfl rfl (Pur.assign rfl) ?_
                              refine JO.nil ?_
                              exact J.weaken (.cons rfl (congrArg (Value.int .i64) (by first | rfl | (dsimp only; omega))) (.cons rfl rfl (.cons rfl rfl (.cons rfl rfl (.cons rfl rfl (.cons rfl rfl (.cons rfl rfl .nil))))))) (by first | exact fun _ h => h | exact SubC.out | (dsimp only; exact SubC.out)) (ihy (y + 1) (by omega) (by omega))
                          · try simp only [decide_eq_true_eq, decide_eq_false_iff_not, Bool.not_eq_true', Bool.not_eq_false', Bool.and_eq_true, Bool.or_eq_true, Bool.and_eq_false_iff, Bool.or_eq_false_iff, Option.isNone_some, Option.isSome_some, Option.isNone_none, Option.isSome_none, Int.not_lt, Int.not_le, beq_iff_eq, beq_eq_false_iff_ne, bne_iff_ne, ne_eq, Bool.not_not, Decidable.not_not] at h200
                            first
                            | first | exact absurd h183 h200 | exact absurd h200 h183
                            | refine JO.no rfl rfl rfl ?_
                              refine JO.no rfl rfl rfl ?_
                              refine JO.pur rfl rfl rfl (Pur.pickF rfl rfl) ?_
                              refine JO.pur rfl rfl rfl (Pur.assign rfl) ?_
                              refine JO.nil ?_
                              refine J.condF rfl rfl ?_
                              refine J.skip rfl ?_
                              refine J.inBlock ?_
                              refine J.inBlock ?_
                              refine J.region rfl ?_
                              refine JO.pur rfl rfl rfl (Pur.move rfl) ?_
                              refine JO.pur rfl rfl rfl (Pur.add rfl rfl (wr64 (by omega))) ?_
                              refine JO.pur rfl rfl rfl (Pur.assign rfl) ?_
                              refine JO.nil ?_
                              exact J.weaken (.cons rfl (congrArg (Value.int .i64) (by first | rfl | (dsimp only; omega))) (.cons rfl rfl (.cons rfl rfl (.cons rfl rfl (.cons rfl rfl (.cons rfl rfl (.cons rfl rfl .nil))))))) (by first | exact fun _ h => h | exact SubC.out | (dsimp only; exact SubC.out)) (ihy (y + 1) (by omega) (by omega))
                      · try simp only [decide_eq_true_eq, decide_eq_false_iff_not, Bool.not_eq_true', Bool.not_eq_false', Bool.and_eq_true, Bool.or_eq_true, Bool.and_eq_false_iff, Bool.or_eq_false_iff, Option.isNone_some, Option.isSome_some, Option.isNone_none, Option.isSome_none, Int.not_lt, Int.not_le, beq_iff_eq, beq_eq_false_iff_ne, bne_iff_ne, ne_eq, Bool.not_not, Decidable.not_not] at h195
                        first
                        | first | exact absurd h195 h178 | exact absurd h178 h195
                        | refine JO.no rfl rfl rfl ?_
                          refine JO.no rfl rfl rfl ?_
                          refine JO.no rfl rfl rfl ?_
                          refine JO.pur rfl rfl rfl (Pur.pickF rfl rfl) ?_
                          refine JO.pur rfl rfl rfl (Pur.move rfl) ?_
                          refine JO.no rfl rfl rfl ?_
                          refine JO.no rfl rfl rfl ?_
                          refine JO.pur rfl rfl rfl (Pur.pickF rfl rfl) ?_
                          refine JO.pur rfl rfl rfl (Pur.assign rfl) ?_
                          refine JO.nil ?_
                          refine J.condF rfl rfl ?_
                          refine J.skip rfl ?_
                          refine J.inBlock ?_
                          refine J.inBlock ?_
                          refine J.region rfl ?_
                          refine JO.pur rfl rfl rfl (Pur.move rfl) ?_
                          refine JO.pur rfl rfl rfl (Pur.add rfl rfl (wr64 (by omega))) ?_
                          refine JO.pur rfl rfl rfl (Pur.assign rfl) ?_
                          refine JO.nil ?_
                          exact J.weaken (.cons rfl (congrArg (Value.int .i64) (by first | rfl | (dsimp only; omega))) (.cons rfl rfl (.cons rfl rfl (.cons rfl rfl (.cons rfl rfl (.cons rfl rfl (.cons rfl rfl .nil))))))) (by first | exact fun _ h => h | exact SubC.out | (dsimp only; exact SubC.out)) (ihy (y + 1) (by omega) (by omega))
              · try simp only [decide_eq_true_eq, decide_eq_false_iff_not, Bool.not_eq_true', Bool.not_eq_false', Bool.and_eq_true, Bool.or_eq_true, Bool.and_eq_false_iff, Bool.or_eq_false_iff, Option.isNone_some, Option.isSome_some, Option.isNone_none, Option.isSome_none, Int.not_lt, Int.not_le, beq_iff_eq, beq_eq_false_iff_ne, bne_iff_ne, ne_eq, Bool.not_not, Decidable.not_not] at h166
                first
                | (exfalso; revert h166; first | (rw [h140]; decide) | (rw [h155]; decide))
                | refine JO.no rfl rfl rfl ?_
                  refine JO.no rfl rfl rfl ?_
                  refine JO.no rfl rfl rfl ?_
                  refine JO.no rfl rfl rfl ?_
                  refine JO.no rfl rfl rfl ?_
                  refine JO.no rfl rfl rfl ?_
                  refine JO.no rfl rfl rfl ?_
                  refine JO.pur rfl rfl rfl (Pur.pickF rfl rfl) ?_
                  refine JO.pur rfl rfl rfl (Pur.assign rfl) ?_
                  refine JO.nil ?_
                  refine J.condF rfl rfl ?_
                  refine J.seq rfl ?_
                  refine J.region rfl ?_
                  refine JO.pur rfl rfl rfl (Pur.move rfl) ?_
                  refine JO.pur rfl rfl rfl (Pur.eqlT rfl rfl) ?_
                  refine JO.pur rfl rfl rfl (Pur.move rfl) ?_
                  refine JO.splitB 178 rfl (fun h178 => ?_) (fun h178 => ?_)
                  · try simp only [decide_eq_true_eq, decide_eq_false_iff_not, Bool.not_eq_true', Bool.not_eq_false', Bool.and_eq_true, Bool.or_eq_true, Bool.and_eq_false_iff, Bool.or_eq_false_iff, Option.isNone_some, Option.isSome_some, Option.isNone_none, Option.isSome_none, Int.not_lt, Int.not_le, beq_iff_eq, beq_eq_false_iff_ne, bne_iff_ne, ne_eq, Bool.not_not, Decidable.not_not] at h178
                    first
                    | (exfalso; revert h178; first | (rw [h140]; decide) | (rw [h155]; decide) | (rw [h166]; decide))
                    | refine JO.pur rfl rfl rfl (Pur.move rfl) ?_
                      refine JO.pur rfl rfl rfl (Pur.move rfl) ?_
                      refine JO.pur rfl rfl rfl (Pur.eqlI rfl rfl) ?_
                      refine JO.pur rfl rfl rfl (Pur.pickT rfl rfl) ?_
                      refine JO.pur rfl rfl rfl (Pur.move rfl) ?_
                      refine JO.splitB 183 rfl (fun h183 => ?_) (fun h183 => ?_)
                      · try simp only [decide_eq_true_eq, decide_eq_false_iff_not, Bool.not_eq_true', Bool.not_eq_false', Bool.and_eq_true, Bool.or_eq_true, Bool.and_eq_false_iff, Bool.or_eq_false_iff, Option.isNone_some, Option.isSome_some, Option.isNone_none, Option.isSome_none, Int.not_lt, Int.not_le, beq_iff_eq, beq_eq_false_iff_ne, bne_iff_ne, ne_eq, Bool.not_not, Decidable.not_not] at h183
                        refine JO.pur rfl rfl rfl (Pur.move rfl) ?_
                        refine JO.pur rfl rfl rfl (Pur.move rfl) ?_
                        refine JO.pur rfl rfl rfl (Pur.neqI rfl rfl) ?_
                        refine JO.pur rfl rfl rfl (Pur.move rfl) ?_
                        refine JO.setv (u' := .bool false) 187 rfl (congrArg Value.bool (decide_eq_false (fun h => h (by rw [resT_red1 h178 h183])))) ?_
                        refine JO.pur rfl rfl rfl (Pur.move rfl) ?_
                        refine JO.pur rfl rfl rfl (Pur.neqI rfl rfl) ?_
                        refine JO.pur rfl rfl rfl (Pur.pickF rfl rfl) ?_
                        refine JO.pur rfl rfl rfl (Pur.pickT rfl rfl) ?_
                        refine JO.pur rfl rfl rfl (Pur.assign rfl) ?_
                        refine JO.nil ?_
                        refine J.setv (u' := .bool false) 175 rfl (congrArg Value.bool (decide_eq_false (fun h => h (by rw [resT_red1 h178 h183])))) ?_
                        refine J.condF rfl rfl ?_
                        refine J.seq rfl ?_
                        refine J.region rfl ?_
                        refine JO.pur rfl rfl rfl (Pur.move rfl) ?_
                        refine JO.pur rfl rfl rfl (Pur.eqlT rfl rfl) ?_
                        refine JO.pur rfl rfl rfl (Pur.move rfl) ?_
                        refine JO.splitB 195 rfl (fun h195 => ?_) (fun h195 => ?_)
                        · try simp only [decide_eq_true_eq, decide_eq_false_iff_not, Bool.not_eq_true', Bool.not_eq_false', Bool.and_eq_true, Bool.or_eq_true, Bool.and_eq_false_iff, Bool.or_eq_false_iff, Option.isNone_some, Option.isSome_some, Option.isNone_none, Option.isSome_none, Int.not_lt, Int.not_le, beq_iff_eq, beq_eq_false_iff_ne, bne_iff_ne, ne_eq, Bool.not_not, Decidable.not_not] at h195
                          first
                          | first | exact absurd h195 h178 | exact absurd h178 h195
                          | refine JO.pur rfl rfl rfl (Pur.move rfl) ?_
                            refine JO.pur rfl rfl rfl (Pur.move rfl) ?_
                            refine JO.pur rfl rfl rfl (Pur.neqI rfl rfl) ?_
                            refine JO.pur rfl rfl rfl (Pur.pickT rfl rfl) ?_
                            refine JO.pur rfl rfl rfl (Pur.move rfl) ?_
                            refine JO.splitB 200 rfl (fun h200 => ?_) (fun h200 => ?_)
                            · try simp only [decide_eq_true_eq, decide_eq_false_iff_not, Bool.not_eq_true', Bool.not_eq_false', Bool.and_eq_true, Bool.or_eq_true, Bool.and_eq_false_iff, Bool.or_eq_false_iff, Option.isNone_some, Option.isSome_some, Option.isNone_none, Option.isSome_none, Int.not_lt, Int.not_le, beq_iff_eq, beq_eq_false_iff_ne, bne_iff_ne, ne_eq, Bool.not_not, Decidable.not_not] at h200
                              first
                              | first | exact absurd h183 h200 | exact absurd h200 h183
                              | refine JO.pur rfl rfl rfl (Pur.move rfl) ?_
                                refine JO.pur rfl rfl rfl (Pur.neqI rfl rfl) ?_
                                refine JO.pur rfl rfl rfl (Pur.pickT rfl rfl) ?_
                                refine JO.pur rfl rfl rfl (Pur.assign rfl) ?_
                                refine JO.nil ?_
                                refine J.setv (u' := .bool false) 192 rfl (congrArg Value.bool (decide_eq_false (fun h => h (by rw [resT_red2 h195 h200])))) ?_
                                refine J.condF rfl rfl ?_
                                refine J.skip rfl ?_
                                refine J.inBlock ?_
                                refine J.inBlock ?_
                                refine J.region rfl ?_
                                refine JO.pur rfl rfl rfl (Pur.move rfl) ?_
                                refine JO.pur rfl rfl rfl (Pur.add rfl rfl (wr64 (by omega))) ?_
                                refine JO.pur rfl rfl rfl (Pur.assign rfl) ?_
                                refine JO.nil ?_
                                exact J.weaken (.cons rfl (congrArg (Value.int .i64) (by first | rfl | (dsimp only; omega))) (.cons rfl rfl (.cons rfl rfl (.cons rfl rfl (.cons rfl rfl (.cons rfl rfl (.cons rfl rfl .nil))))))) (by first | exact fun _ h => h | exact SubC.out | (dsimp only; exact SubC.out)) (ihy (y + 1) (by omega) (by omega))
                            · try simp only [decide_eq_true_eq, decide_eq_false_iff_not, Bool.not_eq_true', Bool.not_eq_false', Bool.and_eq_true, Bool.or_eq_true, Bool.and_eq_false_iff, Bool.or_eq_false_iff, Option.isNone_some, Option.isSome_some, Option.isNone_none, Option.isSome_none, Int.not_lt, Int.not_le, beq_iff_eq, beq_eq_false_iff_ne, bne_iff_ne, ne_eq, Bool.not_not, Decidable.not_not] at h200
                              first
                              | first | exact absurd h183 h200 | exact absurd h200 h183
                              | refine JO.no rfl rfl rfl ?_
                                refine JO.no rfl rfl rfl ?_
                                refine JO.pur rfl rfl rfl (Pur.pickF rfl rfl) ?_
                                refine JO.pur rfl rfl rfl (Pur.assign rfl) ?_
                                refine JO.nil ?_
                                refine J.condF rfl rfl ?_
                                refine J.skip rfl ?_
                                refine J.inBlock ?_
                                refine J.inBlock ?_
                                refine J.region rfl ?_
                                refine JO.pur rfl rfl rfl (Pur.move rfl) ?_
                                refine JO.pur rfl rfl rfl (Pur.add rfl rfl (wr64 (by omega))) ?_
                                refine JO.pur rfl rfl rfl (Pur.assign rfl) ?_
                                refine JO.nil ?_
                                exact J.weaken (.cons rfl (congrArg (Value.int .i64) (by first | rfl | (dsimp only; omega))) (.cons rfl rfl (.cons rfl rfl (.cons rfl rfl (.cons rfl rfl (.cons rfl rfl (.cons rfl rfl .nil))))))) (by first | exact fun _ h => h | exact SubC.out | (dsimp only; exact SubC.out)) (ihy (y + 1) (by omega) (by omega))
                        · try simp only [decide_eq_true_eq, decide_eq_false_iff_not, Bool.not_eq_true', Bool.not_eq_false', Bool.and_eq_true, Bool.or_eq_true, Bool.and_eq_false_iff, Bool.or_eq_false_iff, Option.isNone_some, Option.isSome_some, Option.isNone_none, Option.isSome_none, Int.not_lt, Int.not_le, beq_iff_eq, beq_eq_false_iff_ne, bne_iff_ne, ne_eq, Bool.not_not, Decidable.not_not] at h195
                          first
                          | first | exact absurd h195 h178 | exact absurd h178 h195
                          | refine JO.no rfl rfl rfl ?_
                            refine JO.no rfl rfl rfl ?_
                            refine JO.no rfl rfl rfl ?_
                            refine JO.pur rfl rfl rfl (Pur.pickF rfl rfl) ?_
                            refine JO.pur rfl rfl rfl (Pur.move rfl) ?_
                            refine JO.no rfl rfl rfl ?_
                            refine JO.no rfl rfl rfl ?_
                            refine JO.pur rfl rfl rfl (Pur.pickF rfl rfl) ?_
                            refine JO.pur rfl rfl rfl (Pur.assign rfl) ?_
                            refine JO.nil ?_
                            refine J.condF rfl rfl ?_
                            refine J.skip rfl ?_
                            refine J.inBlock ?_
                            refine J.inBlock ?_
                            refine J.region rfl ?_
                            refine JO.pur rfl rfl rfl (Pur.move rfl) ?_
                            refine JO.pur rfl rfl rfl (Pur.add rfl rfl (wr64 (by omega))) ?_
                            refine JO.pur rfl rfl rfl (Pur.assign rfl) ?_
                            refine JO.nil ?_
                            exact J.weaken (.cons rfl (congrArg (Value.int .i64) (by first | rfl | (dsimp only; omega))) (.cons rfl rfl (.cons rfl rfl (.cons rfl rfl (.cons rfl rfl (.cons rfl rfl (.cons rfl rfl .nil))))))) (by first | exact fun _ h => h | exact SubC.out | (dsimp only; exact SubC.out)) (ihy (y + 1) (by omega) (by omega))
                      · try simp only [decide_eq_true_eq, decide_eq_false_iff_not, Bool.not_eq_true', Bool.not_eq_false', Bool.and_eq_true, Bool.or_eq_true, Bool.and_eq_false_iff, Bool.or_eq_false_iff, Option.isNone_some, Option.isSome_some, Option.isNone_none, Option.isSome_none, Int.not_lt, Int.not_le, beq_iff_eq, beq_eq_false_iff_ne, bne_iff_ne, ne_eq, Bool.not_not, Decidable.not_not] at h183
                        refine JO.no rfl rfl rfl ?_
                        refine JO.no rfl rfl rfl ?_
                        refine JO.no rfl rfl rfl ?_
                        refine JO.no rfl rfl rfl ?_
                        refine JO.no rfl rfl rfl ?_
                        refine JO.no rfl rfl rfl ?_
                        refine JO.no rfl rfl rfl ?_
                        refine JO.pur rfl rfl rfl (Pur.pickF rfl rfl) ?_
                        refine JO.pur rfl rfl rfl (Pur.assign rfl) ?_
                        refine JO.nil ?_
                        refine J.condF rfl rfl ?_
                        refine J.seq rfl ?_
                        refine J.region rfl ?_
                        refine JO.pur rfl rfl rfl (Pur.move rfl) ?_
                        refine JO.pur rfl rfl rfl (Pur.eqlT rfl rfl) ?_
                        refine JO.pur rfl rfl rfl (Pur.move rfl) ?_
                        refine JO.splitB 195 rfl (fun h195 => ?_) (fun h195 => ?_)
                        · try simp only [decide_eq_true_eq, decide_eq_false_iff_not, Bool.not_eq_true', Bool.not_eq_false', Bool.and_eq_true, Bool.or_eq_true, Bool.and_eq_false_iff, Bool.or_eq_false_iff, Option.isNone_some, Option.isSome_some, Option.isNone_none, Option.isSome_none, Int.not_lt, Int.not_le, beq_iff_eq, beq_eq_false_iff_ne, bne_iff_ne, ne_eq, Bool.not_not, Decidable.not_not] at h195
                          first
                          | first | exact absurd h195 h178 | exact absurd h178 h195
                          | refine JO.pur rfl rfl rfl (Pur.move rfl) ?_
                            refine JO.pur rfl rfl rfl (Pur.move rfl) ?_
                            refine JO.pur rfl rfl rfl (Pur.neqI rfl rfl) ?_
                            refine JO.pur rfl rfl rfl (Pur.pickT rfl rfl) ?_
                            refine JO.pur rfl rfl rfl (Pur.move rfl) ?_
                            refine JO.splitB 200 rfl (fun h200 => ?_) (fun h200 => ?_)
                            · try simp only [decide_eq_true_eq, decide_eq_false_iff_not, Bool.not_eq_true', Bool.not_eq_false', Bool.and_eq_true, Bool.or_eq_true, Bool.and_eq_false_iff, Bool.or_eq_false_iff, Option.isNone_some, Option.isSome_some, Option.isNone_none, Option.isSome_none, Int.not_lt, Int.not_le, beq_iff_eq, beq_eq_false_iff_ne, bne_iff_ne, ne_eq, Bool.not_not, Decidable.not_not] at h200
                              first
                              | first | exact absurd h183 h200 | exact absurd h200 h183
                              | refine JO.pur rfl rfl rfl (Pur.move rfl) ?_
                                refine JO.pur rfl rfl rfl (Pur.neqI rfl rfl) ?_
                                refine JO.pur rfl rfl rfl (Pur.pickT rfl rfl) ?_
                                refine JO.pur rfl rfl rfl (Pur.assign rfl) ?_
                                refine JO.nil ?_
                                refine J.setv (u' := .bool false) 192 rfl (congrArg Value.bool (decide_eq_false (fun h => h (by rw [resT_red2 h195 h200])))) ?_
                                refine J.condF rfl rfl ?_
                                refine J.skip rfl ?_
                                refine J.inBlock ?_
                                refine J.inBlock ?_
                                refine J.region rfl ?_
                                refine JO.pur rfl rfl rfl (Pur.move rfl) ?_
                                refine JO.pur rfl rfl rfl (Pur.add rfl rfl (wr64 (by omega))) ?_
                                refine JO.pur rfl rfl rfl (Pur.assign rfl) ?_
                                refine JO.nil ?_
                                exact J.weaken (.cons rfl (congrArg (Value.int .i64) (by first | rfl | (dsimp only; omega))) (.cons rfl rfl (.cons rfl rfl (.cons rfl rfl (.cons rfl rfl (.cons rfl rfl (.cons rfl rfl .nil))))))) (by first | exact fun _ h => h | exact SubC.out | (dsimp only; exact SubC.out)) (ihy (y + 1) (by omega) (by omega))
                            · try simp only [decide_eq_true_eq, decide_eq_false_iff_not, Bool.not_eq_true', Bool.not_eq_false', Bool.and_eq_true, Bool.or_eq_true, Bool.and_eq_false_iff, Bool.or_eq_false_iff, Option.isNone_some, Option.isSome_some, Option.isNone_none, Option.isSome_none, Int.not_lt, Int.not_le, beq_iff_eq, beq_eq_false_iff_ne, bne_iff_ne, ne_eq, Bool.not_not, Decidable.not_not] at h200
                              first
                              | first | exact absurd h183 h200 | exact absurd h200 h183
                              | refine JO.no rfl rfl rfl ?_
                                refine JO.no rfl rfl rfl ?_
                                refine JO.pur rfl rfl rfl (Pur.pickF rfl rfl) ?_
                                refine JO.pur rfl rfl rfl (Pur.assign rfl) ?_
                                refine JO.nil ?_
                                refine J.condF rfl rfl ?_
                                refine J.skip rfl ?_
                                refine J.inBlock ?_
                                refine J.inBlock ?_
                                refine J.region rfl ?_
                                refine JO.pur rfl rfl rfl (Pur.move rfl) ?_
                                refine JO.pur rfl rfl rfl (Pur.add rfl rfl (wr64 (by omega))) ?_
                                refine JO.pur rfl rfl rfl (Pur.assign rfl) ?_
                                refine JO.nil ?_
                                exact J.weaken (.cons rfl (congrArg (Value.int .i64) (by first | rfl | (dsimp only; omega))) (.cons rfl rfl (.cons rfl rfl (.cons rfl rfl (.cons rfl rfl (.cons rfl rfl (.cons rfl rfl .nil))))))) (by first | exact fun _ h => h | exact SubC.out | (dsimp only; exact SubC.out)) (ihy (y + 1) (by omega) (by omega))
                        · try simp only [decide_eq_true_eq, decide_eq_false_iff_not, Bool.not_eq_true', Bool.not_eq_false', Bool.and_eq_true, Bool.or_eq_true, Bool.and_eq_false_iff, Bool.or_eq_false_iff, Option.isNone_some, Option.isSome_some, Option.isNone_none, Option.isSome_none, Int.not_lt, Int.not_le, beq_iff_eq, beq_eq_false_iff_ne, bne_iff_ne, ne_eq, Bool.not_not, Decidable.not_not] at h195
                          first
                          | first | exact absurd h195 h178 | exact absurd h178 h195
                          | refine JO.no rfl rfl rfl ?_
                            refine JO.no rfl rfl rfl ?_
                            refine JO.no rfl rfl rfl ?_
                            refine JO.pur rfl rfl rfl (Pur.pickF rfl rfl) ?_
                            refine JO.pur rfl rfl rfl (Pur.move rfl) ?_
                            refine JO.no rfl rfl rfl ?_
                            refine JO.no rfl rfl rfl ?_
                            refine JO.pur rfl rfl rfl (Pur.pickF rfl rfl) ?_
                            refine JO.pur rfl rfl rfl (Pur.assign rfl) ?_
                            refine JO.nil ?_
                            refine J.condF rfl rfl ?_
                            refine J.skip rfl ?_
                            refine J.inBlock ?_
                            refine J.inBlock ?_
                            refine J.region rfl ?_
                            refine JO.pur rfl rfl rfl (Pur.move rfl) ?_
                            refine JO.pur rfl rfl rfl (Pur.add rfl rfl (wr64 (by omega))) ?_
                            refine JO.pur rfl rfl rfl (Pur.assign rfl) ?_
                            refine JO.nil ?_
                            exact J.weaken (.cons rfl (congrArg (Value.int .i64) (by first | rfl | (dsimp only; omega))) (.cons rfl rfl (.cons rfl rfl (.cons rfl rfl (.cons rfl rfl (.cons rfl rfl (.cons rfl rfl .nil))))))) (by first | exact fun _ h => h | exact SubC.out | (dsimp only; exact SubC.out)) (ihy (y + 1) (by omega) (by omega))
                  · try simp only [decide_eq_true_eq, decide_eq_false_iff_not, Bool.not_eq_true', Bool.not_eq_false', Bool.and_eq_true, Bool.or_eq_true, Bool.and_eq_false_iff, Bool.or_eq_false_iff, Option.isNone_some, Option.isSome_some, Option.isNone_none, Option.isSome_none, Int.not_lt, Int.not_le, beq_iff_eq, beq_eq_false_iff_ne, bne_iff_ne, ne_eq, Bool.not_not, Decidable.not_not] at h178
                    first
                    | (exfalso; revert h178; first | (rw [h140]; decide) | (rw [h155]; decide) | (rw [h166]; decide))
                    | refine JO.no rfl rfl rfl ?_
                      refine JO.no rfl rfl rfl ?_
                      refine JO.no rfl rfl rfl ?_
                      refine JO.pur rfl rfl rfl (Pur.pickF rfl rfl) ?_
                      refine JO.pur rfl rfl rfl (Pur.move rfl) ?_
                      refine JO.no rfl rfl rfl ?_
                      refine JO.no rfl rfl rfl ?_
                      refine JO.no rfl rfl rfl ?_
                      refine JO.no rfl rfl rfl ?_
                      refine JO.no rfl rfl rfl ?_
                      refine JO.no rfl rfl rfl ?_
                      refine JO.no rfl rfl rfl ?_
                      refine JO.pur rfl rfl rfl (Pur.pickF rfl rfl) ?_
                      refine JO.pur rfl rfl rfl (Pur.assign rfl) ?_
                      refine JO.nil ?_
                      refine J.condF rfl rfl ?_
                      refine J.seq rfl ?_
                      refine J.region rfl ?_
                      refine JO.pur rfl rfl rfl (Pur.move rfl) ?_
                      refine JO.pur rfl rfl rfl (Pur.eqlT rfl rfl) ?_
                      refine JO.pur rfl rfl rfl (Pur.move rfl) ?_
                      refine JO.splitB 195 rfl (fun h195 => ?_) (fun h195 => ?_)
                      · try simp only [decide_eq_true_eq, decide_eq_false_iff_not, Bool.not_eq_true', Bool.not_eq_false', Bool.and_eq_true, Bool.or_eq_true, Bool.and_eq_false_iff, Bool.or_eq_false_iff, Option.isNone_some, Option.isSome_some, Option.isNone_none, Option.isSome_none, Int.not_lt, Int.not_le, beq_iff_eq, beq_eq_false_iff_ne, bne_iff_ne, ne_eq, Bool.not_not, Decidable.not_not] at h195
                        first
                        | first | exact absurd h195 h178 | exact absurd h178 h195
                        | refine JO.pur rfl rfl rfl (Pur.move rfl) ?_
                          refine JO.pur rfl rfl rfl (Pur.move rfl) ?_
                          refine JO.pur rfl rfl rfl (Pur.neqI rfl rfl) ?_
                          refine JO.pur rfl rfl rfl (Pur.pickT rfl rfl) ?_
                          refine JO.pur rfl rfl rfl (Pur.move rfl) ?_
                          refine JO.splitB 200 rfl (fun h200 => ?_) (fun h200 => ?_)
                          · try simp only [decide_eq_true_eq, decide_eq_false_iff_not, Bool.not_eq_true', Bool.not_eq_false', Bool.and_eq_true, Bool.or_eq_true, Bool.and_eq_false_iff, Bool.or_eq_false_iff, Option.isNone_some, Option.isSome_some, Option.isNone_none, Option.isSome_none, Int.not_lt, Int.not_le, beq_iff_eq, beq_eq_false_iff_ne, bne_iff_ne, ne_eq, Bool.not_not, Decidable.not_not] at h200
                            first
                            | first | exact absurd h183 h200 | exact absurd h200 h183
                            | refine JO.pur rfl rfl rfl (Pur.move rfl) ?_
                              refine JO.pur rfl rfl rfl (Pur.neqI rfl rfl) ?_
                              refine JO.pur rfl rfl rfl (Pur.pickT rfl rfl) ?_
                              refine JO.pur rfl rfl rfl (Pur.assign rfl) ?_
                              refine JO.nil ?_
                              refine J.setv (u' := .bool false) 192 rfl (congrArg Value.bool (decide_eq_false (fun h => h (by rw [resT_red2 h195 h200])))) ?_
                              refine J.condF rfl rfl ?_
                              refine J.skip rfl ?_
                              refine J.inBlock ?_
                              refine J.inBlock ?_
                              refine J.region rfl ?_
                              refine JO.pur rfl rfl rfl (Pur.move rfl) ?_
                              refine JO.pur rfl rfl rfl (Pur.add rfl rfl (wr64 (by omega))) ?_
                              refine JO.pur rfl rfl rfl (Pur.assign rfl) ?_
                              refine JO.nil ?_
                              exact J.weaken (.cons rfl (congrArg (Value.int .i64) (by first | rfl | (dsimp only; omega))) (.cons rfl rfl (.cons rfl rfl (.cons rfl rfl (.cons rfl rfl (.cons rfl rfl (.cons rfl rfl .nil))))))) (by first | exact fun _ h => h | exact SubC.out | (dsimp only; exact SubC.out)) (ihy (y + 1) (by omega) (by omega))
                          · try simp only [decide_eq_true_eq, decide_eq_false_iff_not, Bool.not_eq_true', Bool.not_eq_false', Bool.and_eq_true, Bool.or_eq_true, Bool.and_eq_false_iff, Bool.or_eq_false_iff, Option.isNone_some, Option.isSome_some, Option.isNone_none, Option.isSome_none, Int.not_lt, Int.not_le, beq_iff_eq, beq_eq_false_iff_ne, bne_iff_ne, ne_eq, Bool.not_not, Decidable.not_not] at h200
                            first
                            | first | exact absurd h183 h200 | exact absurd h200 h183
                            | refine JO.no rfl rfl rfl ?_
                              refine JO.no rfl rfl rfl ?_
                              refine JO.pur rfl rfl rfl (Pur.pickF rfl rfl) ?_
                              refine JO.pur rfl rfl rfl (Pur.assign rfl) ?_
                              refine JO.nil ?_
                              refine J.condF rfl rfl ?_
                              refine J.skip rfl ?_
                              refine J.inBlock ?_
                              refine J.inBlock ?_
                              refine J.region rfl ?_
                              refine JO.pur rfl rfl rfl (Pur.move rfl) ?_
                              refine JO.pur rfl rfl rfl (Pur.add rfl rfl (wr64 (by omega))) ?_
                              refine JO.pur rfl rfl rfl (Pur.assign rfl) ?_
                              refine JO.nil ?_
                              exact J.weaken (.cons rfl (congrArg (Value.int .i64) (by first | rfl | (dsimp only; omega))) (.cons rfl rfl (.cons rfl rfl (.cons rfl rfl (.cons rfl rfl (.cons rfl rfl (.cons rfl rfl .nil))))))) (by first | exact fun _ h => h | exact SubC.out | (dsimp only; exact SubC.out)) (ihy (y + 1) (by omega) (by omega))
                      · try simp only [decide_eq_true_eq, decide_eq_false_iff_not, Bool.not_eq_true', Bool.not_eq_false', Bool.and_eq_true, Bool.or_eq_true, Bool.and_eq_false_iff, Bool.or_eq_false_iff, Option.isNone_some, Option.isSome_some, Option.isNone_none, Option.isSome_none, Int.not_lt, Int.not_le, beq_iff_eq, beq_eq_false_iff_ne, bne_iff_ne, ne_eq, Bool.not_not, Decidable.not_not] at h195
                        first
                        | first | exact absurd h195 h178 | exact absurd h178 h195
                        | refine JO.no rfl rfl rfl ?_
                          refine JO.no rfl rfl rfl ?_
                          refine JO.no rfl rfl rfl ?_
                          refine JO.pur rfl rfl rfl (Pur.pickF rfl rfl) ?_
                          refine JO.pur rfl rfl rfl (Pur.move rfl) ?_
                          refine JO.no rfl rfl rfl ?_
                          refine JO.no rfl rfl rfl ?_
                          refine JO.pur rfl rfl rfl (Pur.pickF rfl rfl) ?_
                          refine JO.pur rfl rfl rfl (Pur.assign rfl) ?_
                          refine JO.nil ?_
                          refine J.condF rfl rfl ?_
                          refine J.skip rfl ?_
                          refine J.inBlock ?_
                          refine J.inBlock ?_
                          refine J.region rfl ?_
                          refine JO.pur rfl rfl rfl (Pur.move rfl) ?_
                          refine JO.pur rfl rfl rfl (Pur.add rfl rfl (wr64 (by omega))) ?_
                          refine JO.pur rfl rfl rfl (Pur.assign rfl) ?_
                          refine JO.nil ?_
                          exact J.weaken (.cons rfl (congrArg (Value.int .i64) (by first | rfl | (dsimp only; omega))) (.cons rfl rfl (.cons rfl rfl (.cons rfl rfl (.cons rfl rfl (.cons rfl rfl (.cons rfl rfl .nil))))))) (by first | exact fun _ h => h | exact SubC.out | (dsimp only; exact SubC.out)) (ihy (y + 1) (by omega) (by omega))
          · try simp only [decide_eq_true_eq, decide_eq_false_iff_not, Bool.not_eq_true', Bool.not_eq_false', Bool.and_eq_true, Bool.or_eq_true, Bool.and_eq_false_iff, Bool.or_eq_false_iff, Option.isNone_some, Option.isSome_some, Option.isNone_none, Option.isSome_none, Int.not_lt, Int.not_le, beq_iff_eq, beq_eq_false_iff_ne, bne_iff_ne, ne_eq, Bool.not_not, Decidable.not_not] at h155
            first
            | (exfalso; revert h155; first | (rw [h140]; decide))
            | refine JO.no rfl rfl rfl ?_
              refine JO.no rfl rfl rfl ?_
              refine JO.no rfl rfl rfl ?_
              refine JO.no rfl rfl rfl ?_
              refine JO.no rfl rfl rfl ?_
              refine JO.no rfl rfl rfl ?_
              refine JO.pur rfl rfl rfl (Pur.pickF rfl rfl) ?_
              refine JO.pur rfl rfl rfl (Pur.assign rfl) ?_
              refine JO.nil ?_
              refine J.condF rfl rfl ?_
              refine J.seq rfl ?_
              refine J.region rfl ?_
              refine JO.pur rfl rfl rfl (Pur.move rfl) ?_
              refine JO.pur rfl rfl rfl (Pur.eqlT rfl rfl) ?_
              refine JO.pur rfl rfl rfl (Pur.move rfl) ?_
              refine JO.splitB 166 rfl (fun h166 => ?_) (fun h166 => ?_)
              · try simp only [decide_eq_true_eq, decide_eq_false_iff_not, Bool.not_eq_true', Bool.not_eq_false', Bool.and_eq_true, Bool.or_eq_true, Bool.and_eq_false_iff, Bool.or_eq_false_iff, Option.isNone_some, Option.isSome_some, Option.isNone_none, Option.isSome_none, Int.not_lt, Int.not_le, beq_iff_eq, beq_eq_false_iff_ne, bne_iff_ne, ne_eq, Bool.not_not, Decidable.not_not] at h166
                first
                | (exfalso; revert h166; first | (rw [h140]; decide) | (rw [h155]; decide))
                | refine JO.pur rfl rfl rfl (Pur.move rfl) ?_
                  refine JO.pur rfl rfl rfl (Pur.move rfl) ?_
                  refine JO.pur rfl rfl rfl (Pur.neqI rfl rfl) ?_
                  refine JO.pur rfl rfl rfl (Pur.move rfl) ?_
                  refine JO.setv (u' := .bool false) 170 rfl (congrArg Value.bool (decide_eq_false (fun h => h (by rw [resT_all h166])))) ?_
                  refine JO.pur rfl rfl rfl (Pur.move rfl) ?_
                  refine JO.pur rfl rfl rfl (Pur.neqI rfl rfl) ?_
                  refine JO.pur rfl rfl rfl (Pur.pickF rfl rfl) ?_
                  refine JO.pur rfl rfl rfl (Pur.pickT rfl rfl) ?_
                  refine JO.pur rfl rfl rfl (Pur.assign rfl) ?_
                  refine JO.nil ?_
                  refine J.setv (u' := .bool false) 163 rfl (congrArg Value.bool (decide_eq_false (fun h => h (by rw [resT_all h166])))) ?_
                  refine J.condF rfl rfl ?_
                  refine J.seq rfl ?_
                  refine J.region rfl ?_
                  refine JO.pur rfl rfl rfl (Pur.move rfl) ?_
                  refine JO.pur rfl rfl rfl (Pur.eqlT rfl rfl) ?_
                  refine JO.pur rfl rfl rfl (Pur.move rfl) ?_
                  refine JO.splitB 178 rfl (fun h178 => ?_) (fun h178 => ?_)
                  · try simp only [decide_eq_true_eq, decide_eq_false_iff_not, Bool.not_eq_true', Bool.not_eq_false', Bool.and_eq_true, Bool.or_eq_true, Bool.and_eq_false_iff, Bool.or_eq_false_iff, Option.isNone_some, Option.isSome_some, Option.isNone_none, Option.isSome_none, Int.not_lt, Int.not_le, beq_iff_eq, beq_eq_false_iff_ne, bne_iff_ne, ne_eq, Bool.not_not, Decidable.not_not] at h178
                    first
                    | (exfalso; revert h178; first | (rw [h140]; decide) | (rw [h155]; decide) | (rw [h166]; decide))
                    | refine JO.pur rfl rfl rfl (Pur.move rfl) ?_
                      refine JO.pur rfl rfl rfl (Pur.move rfl) ?_
                      refine JO.pur rfl rfl rfl (Pur.eqlI rfl rfl) ?_
                      refine JO.pur rfl rfl rfl (Pur.pickT rfl rfl) ?_
                      refine JO.pur rfl rfl rfl (Pur.move rfl) ?_
                      refine JO.splitB 183 rfl (fun h183 => ?_) (fun h183 => ?_)
                      · try simp only [decide_eq_true_eq, decide_eq_false_iff_not, Bool.not_eq_true', Bool.not_eq_false', Bool.and_eq_true, Bool.or_eq_true, Bool.and_eq_false_iff, Bool.or_eq_false_iff, Option.isNone_some, Option.isSome_some, Option.isNone_none, Option.isSome_none, Int.not_lt, Int.not_le, beq_iff_eq, beq_eq_false_iff_ne, bne_iff_ne, ne_eq, Bool.not_not, Decidable.not_not] at h183
                        refine JO.pur rfl rfl rfl (Pur.move rfl) ?_
                        refine JO.pur rfl rfl rfl (Pur.move rfl) ?_
                        refine JO.pur rfl rfl rfl (Pur.neqI rfl rfl) ?_
                        refine JO.pur rfl rfl rfl (Pur.move rfl) ?_
                        refine JO.setv (u' := .bool false) 187 rfl (congrArg Value.bool (decide_eq_false (fun h => h (by rw [resT_red1 h178 h183])))) ?_
                        refine JO.pur rfl rfl rfl (Pur.move rfl) ?_
                        refine JO.pur rfl rfl rfl (Pur.neqI rfl rfl) ?_
                        refine JO.pur rfl rfl rfl (Pur.pickF rfl rfl) ?_
                        refine JO.pur rfl rfl rfl (Pur.pickT rfl rfl) ?_
                        refine JO.pur rfl rfl rfl (Pur.assign rfl) ?_
                        refine JO.nil ?_
                        refine J.setv (u' := .bool false) 175 rfl (congrArg Value.bool (decide_eq_false (fun h => h (by rw [resT_red1 h178 h183])))) ?_
                        refine J.condF rfl rfl ?_
                        refine J.seq rfl ?_
                        refine J.region rfl ?_
                        refine JO.pur rfl rfl rfl (Pur.move rfl) ?_
                        refine JO.pur rfl rfl rfl (Pur.eqlT rfl rfl) ?_
                        refine JO.pur rfl rfl rfl (Pur.move rfl) ?_
                        refine JO.splitB 195 rfl (fun h195 => ?_) (fun h195 => ?_)
                        · try simp only [decide_eq_true_eq, decide_eq_false_iff_not, Bool.not_eq_true', Bool.not_eq_false', Bool.and_eq_true, Bool.or_eq_true, Bool.and_eq_false_iff, Bool.or_eq_false_iff, Option.isNone_some, Option.isSome_some, Option.isNone_none, Option.isSome_none, Int.not_lt, Int.not_le, beq_iff_eq, beq_eq_false_iff_ne, bne_iff_ne, ne_eq, Bool.not_not, Decidable.not_not] at h195
                          first
                          | first | exact absurd h195 h178 | exact absurd h178 h195
                          | refine JO.pur rfl rfl rfl (Pur.move rfl) ?_
                            refine JO.pur rfl rfl rfl (Pur.move rfl) ?_
                            refine JO.pur rfl rfl rfl (Pur.neqI rfl rfl) ?_
                            refine JO.pur rfl rfl rfl (Pur.pickT rfl rfl) ?_
                            refine JO.pur rfl rfl rfl (Pur.move rfl) ?_
                            refine JO.splitB 200 rfl (fun h200 => ?_) (fun h200 => ?_)
                            · try simp only [decide_eq_true_eq, decide_eq_false_iff_not, Bool.not_eq_true', Bool.not_eq_false', Bool.and_eq_true, Bool.or_eq_true, Bool.and_eq_false_iff, Bool.or_eq_false_iff, Option.isNone_some, Option.isSome_some, Option.isNone_none, Option.isSome_none, Int.not_lt, Int.not_le, beq_iff_eq, beq_eq_false_iff_ne, bne_iff_ne, ne_eq, Bool.not_not, Decidable.not_not] at h200
                              first
                              | first | exact absurd h183 h200 | exact absurd h200 h183
                              | refine JO.pur rfl rfl rfl (Pur.move rfl) ?_
                                refine JO.pur rfl rfl rfl (Pur.neqI rfl rfl) ?_
                                refine JO.pur rfl rfl rfl (Pur.pickT rfl rfl) ?_
                                refine JO.pur rfl rfl rfl (Pur.assign rfl) ?_
                                refine JO.nil ?_
                                refine J.setv (u' := .bool false) 192 rfl (congrArg Value.bool (decide_eq_false (fun h => h (by rw [resT_red2 h195 h200])))) ?_
                                refine J.condF rfl rfl ?_
                                refine J.skip rfl ?_
                                refine J.inBlock ?_
                                refine J.inBlock ?_
                                refine J.region rfl ?_
                                refine JO.pur rfl rfl rfl (Pur.move rfl) ?_
                                refine JO.pur rfl rfl rfl (Pur.add rfl rfl (wr64 (by omega))) ?_
                                refine JO.pur rfl rfl rfl (Pur.assign rfl) ?_
                                refine JO.nil ?_
                                exact J.weaken (.cons rfl (congrArg (Value.int .i64) (by first | rfl | (dsimp only; omega))) (.cons rfl rfl (.cons rfl rfl (.cons rfl rfl (.cons rfl rfl (.cons rfl rfl (.cons rfl rfl .nil))))))) (by first | exact fun _ h => h | exact SubC.out | (dsimp only; exact SubC.out)) (ihy (y + 1) (by omega) (by omega))
                            · try simp only [decide_eq_true_eq, decide_eq_false_iff_not, Bool.not_eq_true', Bool.not_eq_false', Bool.and_eq_true, Bool.or_eq_true, Bool.and_eq_false_iff, Bool.or_eq_false_iff, Option.isNone_some, Option.isSome_some, Option.isNone_none, Option.isSome_none, Int.not_lt, Int.not_le, beq_iff_eq, beq_eq_false_iff_ne, bne_iff_ne, ne_eq, Bool.not_not, Decidable.not_not] at h200
                              first
                              | first | exact absurd h183 h200 | exact absurd h200 h183
                              | refine JO.no rfl rfl rfl ?_
                                refine JO.no rfl rfl rfl ?_
                                refine JO.pur rfl rfl rfl (Pur.pickF rfl rfl) ?_
                                refine JO.pur rfl rfl rfl (Pur.assign rfl) ?_
                                refine JO.nil ?_
                                refine J.condF rfl rfl ?_
                                refine J.skip rfl ?_
                                refine J.inBlock ?_
                                refine J.inBlock ?_
                                refine J.region rfl ?_
                                refine JO.pur rfl rfl rfl (Pur.move rfl) ?_
                                refine JO.pur rfl rfl rfl (Pur.add rfl rfl (wr64 (by omega))) ?_
                                refine JO.pur rfl rfl rfl (Pur.assign rfl) ?_
                                refine JO.nil ?_
                                exact J.weaken (.cons rfl (congrArg (Value.int .i64) (by first | rfl | (dsimp only; omega))) (.cons rfl rfl (.cons rfl rfl (.cons rfl rfl (.cons rfl rfl (.cons rfl rfl (.cons rfl rfl .nil))))))) (by first | exact fun _ h => h | exact SubC.out | (dsimp only; exact SubC.out)) (ihy (y + 1) (by omega) (by omega))
                        · try simp only [decide_eq_true_eq, decide_eq_false_iff_not, Bool.not_eq_true', Bool.not_eq_false', Bool.and_eq_true, Bool.or_eq_true, Bool.and_eq_false_iff, Bool.or_eq_false_iff, Option.isNone_some, Option.isSome_some, Option.isNone_none, Option.isSome_none, Int.not_lt, Int.not_le, beq_iff_eq, beq_eq_false_iff_ne, bne_iff_ne, ne_eq, Bool.not_not, Decidable.not_not] at h195
                          first
                          | first | exact absurd h195 h178 | exact absurd h178 h195
                          | refine JO.no rfl rfl rfl ?_
                            refine JO.no rfl rfl rfl ?_
                            refine JO.no rfl rfl rfl ?_
                            refine JO.pur rfl rfl rfl (Pur.pickF rfl rfl) ?_
                            refine JO.pur rfl rfl rfl (Pur.move rfl) ?_
                            refine JO.no rfl rfl rfl ?_
                            refine JO.no rfl rfl rfl ?_
                            refine JO.pur rfl rfl rfl (Pur.pickF rfl rfl) ?_
                            refine JO.pur rfl rfl rfl (Pur.assign rfl) ?_
                            refine JO.nil ?_
                            refine J.condF rfl rfl ?_
                            refine J.skip rfl ?_
                            refine J.inBlock ?_
                            refine J.inBlock ?_
                            refine J.region rfl ?_
                            refine JO.pur rfl rfl rfl (Pur.move rfl) ?_
                            refine JO.pur rfl rfl rfl (Pur.add rfl rfl (wr64 (by omega))) ?_
                            refine JO.pur rfl rfl rfl (Pur.assign rfl) ?_
                            refine JO.nil ?_
                            exact J.weaken (.cons rfl (congrArg (Value.int .i64) (by first | rfl | (dsimp only; omega))) (.cons rfl rfl (.cons rfl rfl (.cons rfl rfl (.cons rfl rfl (.cons rfl rfl (.cons rfl rfl .nil))))))) (by first | exact fun _ h => h | exact SubC.out | (dsimp only; exact SubC.out)) (ihy (y + 1) (by omega) (by omega))
                      · try simp only [decide_eq_true_eq, decide_eq_false_iff_not, Bool.not_eq_true', Bool.not_eq_false', Bool.and_eq_true, Bool.or_eq_true, Bool.and_eq_false_iff, Bool.or_eq_false_iff, Option.isNone_some, Option.isSome_some, Option.isNone_none, Option.isSome_none, Int.not_lt, Int.not_le, beq_iff_eq, beq_eq_false_iff_ne, bne_iff_ne, ne_eq, Bool.not_not, Decidable.not_not] at h183
                        refine JO.no rfl rfl rfl ?_
                        refine JO.no rfl rfl rfl ?_
                        refine JO.no rfl rfl rfl ?_
                        refine JO.no rfl rfl rfl ?_
                        refine JO.no rfl rfl rfl ?_
                        refine JO.no rfl rfl rfl ?_
                        refine JO.no rfl rfl rfl ?_
                        refine JO.pur rfl rfl rfl (Pur.pickF rfl rfl) ?_
                        refine JO.pur rfl rfl rfl (Pur.assign rfl) ?_
                        refine JO.nil ?_
                        refine J.condF rfl rfl ?_
                        refine J.seq rfl ?_
                        refine J.region rfl ?_
                        refine JO.pur rfl rfl rfl (Pur.move rfl) ?_
                        refine JO.pur rfl rfl rfl (Pur.eqlT rfl rfl) ?_
                        refine JO.pur rfl rfl rfl (Pur.move rfl) ?_
                        refine JO.splitB 195 rfl (fun h195 => ?_) (fun h195 => ?_)
                        · try simp only [decide_eq_true_eq, decide_eq_false_iff_not, Bool.not_eq_true', Bool.not_eq_false', Bool.and_eq_true, Bool.or_eq_true, Bool.and_eq_false_iff, Bool.or_eq_false_iff, Option.isNone_some, Option.isSome_some, Option.isNone_none, Option.isSome_none, Int.not_lt, Int.not_le, beq_iff_eq, beq_eq_false_iff_ne, bne_iff_ne, ne_eq, Bool.not_not, Decidable.not_not] at h195
                          first
                          | first | exact absurd h195 h178 | exact absurd h178 h195
                          | refine JO.pur rfl rfl rfl (Pur.move rfl) ?_
                            refine JO.pur rfl rfl rfl (Pur.move rfl) ?_
                            refine JO.pur rfl rfl rfl (Pur.neqI rfl rfl) ?_
                            refine JO.pur rfl rfl rfl (Pur.pickT rfl rfl) ?_
                            refine JO.pur rfl rfl rfl (Pur.move rfl) ?_
                            refine JO.splitB 200 rfl (fun h200 => ?_) (fun h200 => ?_)
                            · try simp only [decide_eq_true_eq, decide_eq_false_iff_not, Bool.not_eq_true', Bool.not_eq_false', Bool.and_eq_true, Bool.or_eq_true, Bool.and_eq_false_iff, Bool.or_eq_false_iff, Option.isNone_some, Option.isSome_some, Option.isNone_none, Option.isSome_none, Int.not_lt, Int.not_le, beq_iff_eq, beq_eq_false_iff_ne, bne_iff_ne, ne_eq, Bool.not_not, Decidable.not_not] at h200
                              first
                              | first | exact absurd h183 h200 | exact absurd h200 h183
                              | refine JO.pur rfl rfl rfl (Pur.move rfl) ?_
                                refine JO.pur rfl rfl rfl (Pur.neqI rfl rfl) ?_
                                refine JO.pur rfl rfl rfl (Pur.pickT rfl rfl) ?_
                                refine JO.pur rfl rfl rfl (Pur.assign rfl) ?_
                                refine JO.nil ?_
                                refine J.setv (u' := .bool false) 192 rfl (congrArg Value.bool (decide_eq_false (fun h => h (by rw [resT_red2 h195 h200])))) ?_
                                refine J.condF rfl rfl ?_
                                refine J.skip rfl ?_
                                refine J.inBlock ?_
                                refine J.inBlock ?_
                                refine J.region rfl ?_
                                refine JO.pur rfl rfl rfl (Pur.move rfl) ?_
                                refine JO.pur rfl rfl rfl (Pur.add rfl rfl (wr64 (by omega))) ?_
                                refine JO.pur rfl rfl rfl (Pur.assign rfl) ?_
                                refine JO.nil ?_
                                exact J.weaken (.cons rfl (congrArg (Value.int .i64) (by first | rfl | (dsimp only; omega))) (.cons rfl rfl (.cons rfl rfl (.cons rfl rfl (.cons rfl rfl (.cons rfl rfl (.cons rfl rfl .nil))))))) (by first | exact fun _ h => h | exact SubC.out | (dsimp only; exact SubC.out)) (ihy (y + 1) (by omega) (by omega))
                            · try simp only [decide_eq_true_eq, decide_eq_false_iff_not, Bool.not_eq_true', Bool.not_eq_false', Bool.and_eq_true, Bool.or_eq_true, Bool.and_eq_false_iff, Bool.or_eq_false_iff, Option.isNone_some, Option.isSome_some, Option.isNone_none, Option.isSome_none, Int.not_lt, Int.not_le, beq_iff_eq, beq_eq_false_iff_ne, bne_iff_ne, ne_eq, Bool.not_not, Decidable.not_not] at h200
                              first
                              | first | exact absurd h183 h200 | exact absurd h200 h183
                              | refine JO.no rfl rfl rfl ?_
                                refine JO.no rfl rfl rfl ?_
                                refine JO.pur rfl rfl rfl (Pur.pickF rfl rfl) ?_
                                refine JO.pur rfl rfl rfl (Pur.assign rfl) ?_
                                refine JO.nil ?_
                                refine J.condF rfl rfl ?_
                                refine J.skip rfl ?_
                                refine J.inBlock ?_
                                refine J.inBlock ?_
                                refine J.region rfl ?_
                                refine JO.pur rfl rfl rfl (Pur.move rfl) ?_
                                refine JO.pur rfl rfl rfl (Pur.add rfl rfl (wr64 (by omega))) ?_
                                refine JO.pur rfl rfl rfl (Pur.assign rfl) ?_
                                refine JO.nil ?_
                                exact J.weaken (.cons rfl (congrArg (Value.int .i64) (by first | rfl | (dsimp only; omega))) (.cons rfl rfl (.cons rfl rfl (.cons rfl rfl (.cons rfl rfl (.cons rfl rfl (.cons rfl rfl .nil))))))) (by first | exact fun _ h => h | exact SubC.out | (dsimp only; exact SubC.out)) (ihy (y + 1) (by omega) (by omega))
                        · try simp only [decide_eq_true_eq, decide_eq_false_iff_not, Bool.not_eq_true', Bool.not_eq_false', Bool.and_eq_true, Bool.or_eq_true, Bool.and_eq_false_iff, Bool.or_eq_false_iff, Option.isNone_some, Option.isSome_some, Option.isNone_none, Option.isSome_none, Int.not_lt, Int.not_le, beq_iff_eq, beq_eq_false_iff_ne, bne_iff_ne, ne_eq, Bool.not_not, Decidable.not_not] at h195
                          first
                          | first | exact absurd h195 h178 | exact absurd h178 h195
                          | refine JO.no rfl rfl rfl ?_
                            refine JO.no rfl rfl rfl ?_
                            refine JO.no rfl rfl rfl ?_
                            refine JO.pur rfl rfl rfl (Pur.pickF rfl rfl) ?_
                            refine JO.pur rfl rfl rfl (Pur.move rfl) ?_
                            refine JO.no rfl rfl rfl ?_
                            refine JO.no rfl rfl rfl ?_
                            refine JO.pur rfl rfl rfl (Pur.pickF rfl rfl) ?_
                            refine JO.pur rfl rfl rfl (Pur.assign rfl) ?_
                            refine JO.nil ?_
                            refine J.condF rfl rfl ?_
                            refine J.skip rfl ?_
                            refine J.inBlock ?_
                            refine J.inBlock ?_
                            refine J.region rfl ?_
                            refine JO.pur rfl rfl rfl (Pur.move rfl) ?_
                            refine JO.pur rfl rfl rfl (Pur.add rfl rfl (wr64 (by omega))) ?_
                            refine JO.pur rfl rfl rfl (Pur.assign rfl) ?_
                            refine JO.nil ?_
                            exact J.weaken (.cons rfl (congrArg (Value.int .i64) (by first | rfl | (dsimp only; omega))) (.cons rfl rfl (.cons rfl rfl (.cons rfl rfl (.cons rfl rfl (.cons rfl rfl (.cons rfl rfl .nil))))))) (by first | exact fun _ h => h | exact SubC.out | (dsimp only; exact SubC.out)) (ihy (y + 1) (by omega) (by omega))
                  · try simp only [decide_eq_true_eq, decide_eq_false_iff_not, Bool.not_eq_true', Bool.not_eq_false', Bool.and_eq_true, Bool.or_eq_true, Bool.and_eq_false_iff, Bool.or_eq_false_iff, Option.isNone_some, Option.isSome_some, Option.isNone_none, Option.isSome_none, Int.not_lt, Int.not_le, beq_iff_eq, beq_eq_false_iff_ne, bne_iff_ne, ne_eq, Bool.not_not, Decidable.not_not] at h178
                    first
                    | (exfalso; revert h178; first | (rw [h140]; decide) | (rw [h155]; decide) | (rw [h166]; decide))
                    | refine JO.no rfl rfl rfl ?_
                      refine JO.no rfl rfl rfl ?_
                      refine JO.no rfl rfl rfl ?_
                      refine JO.pur rfl rfl rfl (Pur.pickF rfl rfl) ?_
                      refine JO.pur rfl rfl rfl (Pur.move rfl) ?_
                      refine JO.no rfl rfl rfl ?_
                      refine JO.no rfl rfl rfl ?_
                      refine JO.no rfl rfl rfl ?_
                      refine JO.no rfl rfl rfl ?_
                      refine JO.no rfl rfl rfl ?_
                      refine JO.no rfl rfl rfl ?_
                      refine JO.no rfl rfl rfl ?_
                      refine JO.pur rfl rfl rfl (Pur.pickF rfl rfl) ?_
                      refine JO.pur rfl rfl rfl (Pur.assign rfl) ?_
                      refine JO.nil ?_
                      refine J.condF rfl rfl ?_
                      refine J.seq rfl ?_
                      refine J.region rfl ?_
                      refine JO.pur rfl rfl rfl (Pur.move rfl) ?_
                      refine JO.pur rfl rfl rfl (Pur.eqlT rfl rfl) ?_
                      refine JO.pur rfl rfl rfl (Pur.move rfl) ?_
                      refine JO.splitB 195 rfl (fun h195 => ?_) (fun h195 => ?_)
                      · try simp only [decide_eq_true_eq, decide_eq_false_iff_not, Bool.not_eq_true', Bool.not_eq_false', Bool.and_eq_true, Bool.or_eq_true, Bool.and_eq_false_iff, Bool.or_eq_false_iff, Option.isNone_some, Option.isSome_some, Option.isNone_none, Option.isSome_none, Int.not_lt, Int.not_le, beq_iff_eq, beq_eq_false_iff_ne, bne_iff_ne, ne_eq, Bool.not_not, Decidable.not_not] at h195
                        first
                        | first | exact absurd h195 h178 | exact absurd h178 h195
                        | refine JO.pur rfl rfl rfl (Pur.move rfl) ?_
                          refine JO.pur rfl rfl rfl (Pur.move rfl) ?_
                          refine JO.pur rfl rfl rfl (Pur.neqI rfl rfl) ?_
                          refine JO.pur rfl rfl rfl (Pur.pickT rfl rfl) ?_
                          refine JO.pur rfl rfl rfl (Pur.move rfl) ?_
                          refine JO.splitB 200 rfl (fun h200 => ?_) (fun h200 => ?_)
                          · try simp only [decide_eq_true_eq, decide_eq_false_iff_not, Bool.not_eq_true', Bool.not_eq_false', Bool.and_eq_true, Bool.or_eq_true, Bool.and_eq_false_iff, Bool.or_eq_false_iff, Option.isNone_some, Option.isSome_some, Option.isNone_none, Option.isSome_none, Int.not_lt, Int.not_le, beq_iff_eq, beq_eq_false_iff_ne, bne_iff_ne, ne_eq, Bool.not_not, Decidable.not_not] at h200
                            first
                            | first | exact absurd h183 h200 | exact absurd h200 h183
                            | refine JO.pur rfl rfl rfl (Pur.move rfl) ?_
                              refine JO.pur rfl rfl rfl (Pur.neqI rfl rfl) ?_
                              refine JO.pur rfl rfl rfl (Pur.pickT rfl rfl) ?_
                              refine JO.pur rfl rfl rfl (Pur.assign rfl) ?_
                              refine JO.nil ?_
                              refine J.setv (u' := .bool false) 192 rfl (congrArg Value.bool (decide_eq_false (fun h => h (by rw [resT_red2 h195 h200])))) ?_
                              refine J.condF rfl rfl ?_
                              refine J.skip rfl ?_
                              refine J.inBlock ?_
                              refine J.inBlock ?_
                              refine J.region rfl ?_
                              refine JO.pur rfl rfl rfl (Pur.move rfl) ?_
                              refine JO.pur rfl rfl rfl (Pur.add rfl rfl (wr64 (by omega))) ?_
                              refine JO.pur rfl rfl rfl (Pur.assign rfl) ?_
                              refine JO.nil ?_
                              exact J.weaken (.cons rfl (congrArg (Value.int .i64) (by first | rfl | (dsimp only; omega))) (.cons rfl rfl (.cons rfl rfl (.cons rfl rfl (.cons rfl rfl (.cons rfl rfl (.cons rfl rfl .nil))))))) (by first | exact fun _ h => h | exact SubC.out | (dsimp only; exact SubC.out)) (ihy (y + 1) (by omega) (by omega))
                          · try simp only [decide_eq_true_eq, decide_eq_false_iff_not, Bool.not_eq_true', Bool.not_eq_false', Bool.and_eq_true, Bool.or_eq_true, Bool.and_eq_false_iff, Bool.or_eq_false_iff, Option.isNone_some, Option.isSome_some, Option.isNone_none, Option.isSome_none, Int.not_lt, Int.not_le, beq_iff_eq, beq_eq_false_iff_ne, bne_iff_ne, ne_eq, Bool.not_not, Decidable.not_not] at h200
                            first
                            | first | exact absurd h183 h200 | exact absurd h200 h183
                            | refine JO.no rfl rfl rfl ?_
                              refine JO.no rfl rfl rfl ?_
                              refine JO.pur rfl rfl rfl (Pur.pickF rfl rfl) ?_
                              refine JO.pur rfl rfl rfl (Pur.assign rfl) ?_
                              refine JO.nil ?_
                              refine J.condF rfl rfl ?_
                              refine J.skip rfl ?_
                              refine J.inBlock ?_
                              refine J.inBlock ?_
                              refine J.region rfl ?_
                              refine JO.pur rfl rfl rfl (Pur.move rfl) ?_
                              refine JO.pur rfl rfl rfl (Pur.add rfl rfl (wr64 (by omega))) ?_
                              refine JO.pur rfl rfl rfl (Pur.assign rfl) ?_
                              refine JO.nil ?_
                              exact J.weaken (.cons rfl (congrArg (Value.int .i64) (by first | rfl | (dsimp only; omega))) (.cons rfl rfl (.cons rfl rfl (.cons rfl rfl (.cons rfl rfl (.cons rfl rfl (.cons rfl rfl .nil))))))) (by first | exact fun _ h => h | exact SubC.out | (dsimp only; exact SubC.out)) (ihy (y + 1) (by omega) (by omega))
                      · try simp only [decide_eq_true_eq, decide_eq_false_iff_not, Bool.not_eq_true', Bool.not_eq_false', Bool.and_eq_true, Bool.or_eq_true, Bool.and_eq_false_iff, Bool.or_eq_false_iff, Option.isNone_some, Option.isSome_some, Option.isNone_none, Option.isSome_none, Int.not_lt, Int.not_le, beq_iff_eq, beq_eq_false_iff_ne, bne_iff_ne, ne_eq, Bool.not_not, Decidable.not_not] at h195
                        first
                        | first | exact absurd h195 h178 | exact absurd h178 h195
                        | refine JO.no rfl rfl rfl ?_
                          refine JO.no rfl rfl rfl ?_
                          refine JO.no rfl rfl rfl ?_
                          refine JO.pur rfl rfl rfl (Pur.pickF rfl rfl) ?_
                          refine JO.pur rfl rfl rfl (Pur.move rfl) ?_
                          refine JO.no rfl rfl rfl ?_
                          refine JO.no rfl rfl rfl ?_
                          refine JO.pur rfl rfl rfl (Pur.pickF rfl rfl) ?_
                          refine JO.pur rfl rfl rfl (Pur.assign rfl) ?_
                          refine JO.nil ?_
                          refine J.condF rfl rfl ?_
                          refine J.skip rfl ?_
                          refine J.inBlock ?_
                          refine J.inBlock ?_
                          refine J.region rfl ?_
                          refine JO.pur rfl rfl rfl (Pur.move rfl) ?_
                          refine JO.pur rfl rfl rfl (Pur.add rfl rfl (wr64 (by omega))) ?_
                          refine JO.pur rfl rfl rfl (Pur.assign rfl) ?_
                          refine JO.nil ?_
                          exact J.weaken (.cons rfl (congrArg (Value.int .i64) (by first | rfl | (dsimp only; omega))) (.cons rfl rfl (.cons rfl rfl (.cons rfl rfl (.cons rfl rfl (.cons rfl rfl (.cons rfl rfl .nil))))))) (by first | exact fun _ h => h | exact SubC.out | (dsimp only; exact SubC.out)) (ihy (y + 1) (by omega) (by omega))
              · try simp only [decide_eq_true_eq, decide_eq_false_iff_not, Bool.not_eq_true', Bool.not_eq_false', Bool.and_eq_true, Bool.or_eq_true, Bool.and_eq_false_iff, Bool.or_eq_false_iff, Option.isNone_some, Option.isSome_some, Option.isNone_none, Option.isSome_none, Int.not_lt, Int.not_le, beq_iff_eq, beq_eq_false_iff_ne, bne_iff_ne, ne_eq, Bool.not_not, Decidable.not_not] at h166
                first
                | (exfalso; revert h166; first | (rw [h140]; decide) | (rw [h155]; decide))
                | refine JO.no rfl rfl rfl ?_
                  refine JO.no rfl rfl rfl ?_
                  refine JO.no rfl rfl rfl ?_
                  refine JO.no rfl rfl rfl ?_
                  refine JO.no rfl rfl rfl ?_
                  refine JO.no rfl rfl rfl ?_
                  refine JO.no rfl rfl rfl ?_
                  refine JO.pur rfl rfl rfl (Pur.pickF rfl rfl) ?_
                  refine JO.pur rfl rfl rfl (Pur.assign rfl) ?_
                  refine JO.nil ?_
                  refine J.condF rfl rfl ?_
                  refine J.seq rfl ?_
                  refine J.region rfl ?_
                  refine JO.pur rfl rfl rfl (Pur.move rfl) ?_
                  refine JO.pur rfl rfl rfl (Pur.eqlT rfl rfl) ?_
                  refine JO.pur rfl rfl rfl (Pur.move rfl) ?_
                  refine JO.splitB 178 rfl (fun h178 => ?_) (fun h178 => ?_)
                  · try simp only [decide_eq_true_eq, decide_eq_false_iff_not, Bool.not_eq_true', Bool.not_eq_false', Bool.and_eq_true, Bool.or_eq_true, Bool.and_eq_false_iff, Bool.or_eq_false_iff, Option.isNone_some, Option.isSome_some, Option.isNone_none, Option.isSome_none, Int.not_lt, Int.not_le, beq_iff_eq, beq_eq_false_iff_ne, bne_iff_ne, ne_eq, Bool.not_not, Decidable.not_not] at h178
                    first
                    | (exfalso; revert h178; first | (rw [h140]; decide) | (rw [h155]; decide) | (rw [h166]; decide))
                    | refine JO.pur rfl rfl rfl (Pur.move rfl) ?_
                      refine JO.pur rfl rfl rfl (Pur.move rfl) ?_
                      refine JO.pur rfl rfl rfl (Pur.eqlI rfl rfl) ?_
                      refine JO.pur rfl rfl rfl (Pur.pickT rfl rfl) ?_
                      refine JO.pur rfl rfl rfl (Pur.move rfl) ?_
                      refine JO.splitB 183 rfl (fun h183 => ?_) (fun h183 => ?_)
                      · try simp only [decide_eq_true_eq, decide_eq_false_iff_not, Bool.not_eq_true', Bool.not_eq_false', Bool.and_eq_true, Bool.or_eq_true, Bool.and_eq_false_iff, Bool.or_eq_false_iff, Option.isNone_some, Option.isSome_some, Option.isNone_none, Option.isSome_none, Int.not_lt, Int.not_le, beq_iff_eq, beq_eq_false_iff_ne, bne_iff_ne, ne_eq, Bool.not_not, Decidable.not_not] at h183
                        refine JO.pur rfl rfl rfl (Pur.move rfl) ?_
                        refine JO.pur rfl rfl rfl (Pur.move rfl) ?_
                        refine JO.pur rfl rfl rfl (Pur.neqI rfl rfl) ?_
                        refine JO.pur rfl rfl rfl (Pur.move rfl) ?_
                        refine JO.setv (u' := .bool false) 187 rfl (congrArg Value.bool (decide_eq_false (fun h => h (by rw [resT_red1 h178 h183])))) ?_
                        refine JO.pur rfl rfl rfl (Pur.move rfl) ?_
                        refine JO.pur rfl rfl rfl (Pur.neqI rfl rfl) ?_
                        refine JO.pur rfl rfl rfl (Pur.pickF rfl rfl) ?_
                        refine JO.pur rfl rfl rfl (Pur.pickT rfl rfl) ?_
                        refine JO.pur rfl rfl rfl (Pur.assign rfl) ?_
                        refine JO.nil ?_
                        refine J.setv (u' := .bool false) 175 rfl (congrArg Value.bool (decide_eq_false (fun h => h (by rw [resT_red1 h178 h183])))) ?_
                        refine J.condF rfl rfl ?_
                        refine J.seq rfl ?_
                        refine J.region rfl ?_
                        refine JO.pur rfl rfl rfl (Pur.move rfl) ?_
                        refine JO.pur rfl rfl rfl (Pur.eqlT rfl rfl) ?_
                        refine JO.pur rfl rfl rfl (Pur.move rfl) ?_
                        refine JO.splitB 195 rfl (fun h195 => ?_) (fun h195 => ?_)
                        · try simp only [decide_eq_true_eq, decide_eq_false_iff_not, Bool.not_eq_true', Bool.not_eq_false', Bool.and_eq_true, Bool.or_eq_true, Bool.and_eq_false_iff, Bool.or_eq_false_iff, Option.isNone_some, Option.isSome_some, Option.isNone_none, Option.isSome_none, Int.not_lt, Int.not_le, beq_iff_eq, beq_eq_false_iff_ne, bne_iff_ne, ne_eq, Bool.not_not, Decidable.not_not] at h195
                          first
                          | first | exact absurd h195 h178 | exact absurd h178 h195
                          | refine JO.pur rfl rfl rfl (Pur.move rfl) ?_
                            refine JO.pur rfl rfl rfl (Pur.move rfl) ?_
                            refine JO.pur rfl rfl rfl (Pur.neqI rfl rfl) ?_
                            refine JO.pur rfl rfl rfl (Pur.pickT rfl rfl) ?_
                            refine JO.pur rfl rfl rfl (Pur.move rfl) ?_
                            refine JO.splitB 200 rfl (fun h200 => ?_) (fun h200 => ?_)
                            · try simp only [decide_eq_true_eq, decide_eq_false_iff_not, Bool.not_eq_true', Bool.not_eq_false', Bool.and_eq_true, Bool.or_eq_true, Bool.and_eq_false_iff, Bool.or_eq_false_iff, Option.isNone_some, Option.isSome_some, Option.isNone_none, Option.isSome_none, Int.not_lt, Int.not_le, beq_iff_eq, beq_eq_false_iff_ne, bne_iff_ne, ne_eq, Bool.not_not, Decidable.not_not] at h200
                              first
                              | first | exact absurd h183 h200 | exact absurd h200 h183
                              | refine JO.pur rfl rfl rfl (Pur.move rfl) ?_
                                refine JO.pur rfl rfl rfl (Pur.neqI rfl rfl) ?_
                                refine JO.pur rfl rfl rfl (Pur.pickT rfl rfl) ?_
                                refine JO.pur rfl rfl rfl (Pur.assign rfl) ?_
                                refine JO.nil ?_
                                refine J.setv (u' := .bool false) 192 rfl (congrArg Value.bool (decide_eq_false (fun h => h (by rw [resT_red2 h195 h200])))) ?_
                                refine J.condF rfl rfl ?_
                                refine J.skip rfl ?_
                                refine J.inBlock ?_
                                refine J.inBlock ?_
                                refine J.region rfl ?_
                                refine JO.pur rfl rfl rfl (Pur.move rfl) ?_
                                refine JO.pur rfl rfl rfl (Pur.add rfl rfl (wr64 (by omega))) ?_
                                refine JO.pur rfl rfl rfl (Pur.assign rfl) ?_
                                refine JO.nil ?_
                                exact J.weaken (.cons rfl (congrArg (Value.int .i64) (by first | rfl | (dsimp only; omega))) (.cons rfl rfl (.cons rfl rfl (.cons rfl rfl (.cons rfl rfl (.cons rfl rfl (.cons rfl rfl .nil))))))) (by first | exact fun _ h => h | exact SubC.out | (dsimp only; exact SubC.out)) (ihy (y + 1) (by omega) (by omega))
                            · try simp only [decide_eq_true_eq, decide_eq_false_iff_not, Bool.not_eq_true', Bool.not_eq_false', Bool.and_eq_true, Bool.or_eq_true, Bool.and_eq_false_iff, Bool.or_eq_false_iff, Option.isNone_some, Option.isSome_some, Option.isNone_none, Option.isSome_none, Int.not_lt, Int.not_le, beq_iff_eq, beq_eq_false_iff_ne, bne_iff_ne, ne_eq, Bool.not_not, Decidable.not_not] at h200
                              first
                              | first | exact absurd h183 h200 | exact absurd h200 h183
                              | refine JO.no rfl rfl rfl ?_
                                refine JO.no rfl rfl rfl ?_
                                refine JO.pur rfl rfl rfl (Pur.pickF rfl rfl) ?_
                                refine JO.pur rfl rfl rfl (Pur.assign rfl) ?_
                                refine JO.nil ?_
                                refine J.condF rfl rfl ?_
                                refine J.skip rfl ?_
                                refine J.inBlock ?_
                                refine J.inBlock ?_
                                refine J.region rfl ?_
                                refine JO.pur rfl rfl rfl (Pur.move rfl) ?_
                                refine JO.pur rfl rfl rfl (Pur.add rfl rfl (wr64 (by omega))) ?_
                                refine JO.pur rfl rfl rfl (Pur.assign rfl) ?_
                                refine JO.nil ?_
                                exact J.weaken (.cons rfl (congrArg (Value.int .i64) (by first | rfl | (dsimp only; omega))) (.cons rfl rfl (.cons rfl rfl (.cons rfl rfl (.cons rfl rfl (.cons rfl rfl (.cons rfl rfl .nil))))))) (by first | exact fun _ h => h | exact SubC.out | (dsimp only; exact SubC.out)) (ihy (y + 1) (by omega) (by omega))
                        · try simp only [decide_eq_true_eq, decide_eq_false_iff_not, Bool.not_eq_true', Bool.not_eq_false', Bool.and_eq_true, Bool.or_eq_true, Bool.and_eq_false_iff, Bool.or_eq_false_iff, Option.isNone_some, Option.isSome_some, Option.isNone_none, Option.isSome_none, Int.not_lt, Int.not_le, beq_iff_eq, beq_eq_false_iff_ne, bne_iff_ne, ne_eq, Bool.not_not, Decidable.not_not] at h195
                          first
                          | first | exact absurd h195 h178 | exact absurd h178 h195
                          | refine JO.no rfl rfl rfl ?_
                            refine JO.no rfl rfl rfl ?_
                            refine JO.no rfl rfl rfl ?_
                            refine JO.pur rfl rfl rfl (Pur.pickF rfl rfl) ?_
                            refine JO.pur rfl rfl rfl (Pur.move rfl) ?_
                            refine JO.no rfl rfl rfl ?_
                            refine JO.no rfl rfl rfl ?_
                            refine JO.pur rfl rfl rfl (Pur.pickF rfl rfl) ?_
                            refine JO.pur rfl rfl rfl (Pur.assign rfl) ?_
                            refine JO.nil ?_
                            refine J.condF rfl rfl ?_
                            refine J.skip rfl ?_
                            refine J.inBlock ?_
                            refine J.inBlock ?_
                            refine J.region rfl ?_
                            refine JO.pur rfl rfl rfl (Pur.move rfl) ?_
                            refine JO.pur rfl rfl rfl (Pur.add rfl rfl (wr64 (by omega))) ?_
                            refine JO.pur rfl rfl rfl (Pur.assign rfl) ?_
                            refine JO.nil ?_
                            exact J.weaken (.cons rfl (congrArg (Value.int .i64) (by first | rfl | (dsimp only; omega))) (.cons rfl rfl (.cons rfl rfl (.cons rfl rfl (.cons rfl rfl (.cons rfl rfl (.cons rfl rfl .nil))))))) (by first | exact fun _ h => h | exact SubC.out | (dsimp only; exact SubC.out)) (ihy (y + 1) (by omega) (by omega))
                      · try simp only [decide_eq_true_eq, decide_eq_false_iff_not, Bool.not_eq_true', Bool.not_eq_false', Bool.and_eq_true, Bool.or_eq_true, Bool.and_eq_false_iff, Bool.or_eq_false_iff, Option.isNone_some, Option.isSome_some, Option.isNone_none, Option.isSome_none, Int.not_lt, Int.not_le, beq_iff_eq, beq_eq_false_iff_ne, bne_iff_ne, ne_eq, Bool.not_not, Decidable.not_not] at h183
                        refine JO.no rfl rfl rfl ?_
                        refine JO.no rfl rfl rfl ?_
                        refine JO.no rfl rfl rfl ?_
                        refine JO.no rfl rfl rfl ?_
                        refine JO.no rfl rfl rfl ?_
                        refine JO.no rfl rfl rfl ?_
                        refine JO.no rfl rfl rfl ?_
                        refine JO.pur rfl rfl rfl (Pur.pickF rfl rfl) ?_
                        refine JO.pur rfl rfl rfl (Pur.assign rfl) ?_
                        refine JO.nil ?_
                        refine J.condF rfl rfl ?_
                        refine J.seq rfl ?_
                        refine J.region rfl ?_
                        refine JO.pur rfl rfl rfl (Pur.move rfl) ?_
                        refine JO.pur rfl rfl rfl (Pur.eqlT rfl rfl) ?_
                        refine JO.pur rfl rfl rfl (Pur.move rfl) ?_
                        refine JO.splitB 195 rfl (fun h195 => ?_) (fun h195 => ?_)
                        · try simp only [decide_eq_true_eq, decide_eq_false_iff_not, Bool.not_eq_true', Bool.not_eq_false', Bool.and_eq_true, Bool.or_eq_true, Bool.and_eq_false_iff, Bool.or_eq_false_iff, Option.isNone_some, Option.isSome_some, Option.isNone_none, Option.isSome_none, Int.not_lt, Int.not_le, beq_iff_eq, beq_eq_false_iff_ne, bne_iff_ne, ne_eq, Bool.not_not, Decidable.not_not] at h195
                          first
                          | first | exact absurd h195 h178 | exact absurd h178 h195
                          | refine JO.pur rfl rfl rfl (Pur.move rfl) ?_
                            refine JO.pur rfl rfl rfl (Pur.move rfl) ?_
                            refine JO.pur rfl rfl rfl (Pur.neqI rfl rfl) ?_
                            refine JO.pur rfl rfl rfl (Pur.pickT rfl rfl) ?_
                            refine JO.pur rfl rfl rfl (Pur.move rfl) ?_
                            refine JO.splitB 200 rfl (fun h200 => ?_) (fun h200 => ?_)
                            · try simp only [decide_eq_true_eq, decide_eq_false_iff_not, Bool.not_eq_true', Bool.not_eq_false', Bool.and_eq_true, Bool.or_eq_true, Bool.and_eq_false_iff, Bool.or_eq_false_iff, Option.isNone_some, Option.isSome_some, Option.isNone_none, Option.isSome_none, Int.not_lt, Int.not_le, beq_iff_eq, beq_eq_false_iff_ne, bne_iff_ne, ne_eq, Bool.not_not, Decidable.not_not] at h200
                              first
                              | first | exact absurd h183 h200 | exact absurd h200 h183
                              | refine JO.pur rfl rfl rfl (Pur.move rfl) ?_
                                refine JO.pur rfl rfl rfl (Pur.neqI rfl rfl) ?_
                                refine JO.pur rfl rfl rfl (Pur.pickT rfl rfl) ?_
                                refine JO.pur rfl rfl rfl (Pur.assign rfl) ?_
                                refine JO.nil ?_
                                refine J.setv (u' := .bool false) 192 rfl (congrArg Value.bool (decide_eq_false (fun h => h (by rw [resT_red2 h195 h200])))) ?_
                                refine J.condF rfl rfl ?_
                                refine J.skip rfl ?_
                                refine J.inBlock ?_
                                refine J.inBlock ?_
                                refine J.region rfl ?_
                                refine JO.pur rfl rfl rfl (Pur.move rfl) ?_
                                refine JO.pur rfl rfl rfl (Pur.add rfl rfl (wr64 (by omega))) ?_
                                refine JO.pur rfl rfl rfl (Pur.assign rfl) ?_
                                refine JO.nil ?_
                                exact J.weaken (.cons rfl (congrArg (Value.int .i64) (by first | rfl | (dsimp only; omega))) (.cons rfl rfl (.cons rfl rfl (.cons rfl rfl (.cons rfl rfl (.cons rfl rfl (.cons rfl rfl .nil))))))) (by first | exact fun _ h => h | exact SubC.out | (dsimp only; exact SubC.out)) (ihy (y + 1) (by omega) (by omega))
                            · try simp only [decide_eq_true_eq, decide_eq_false_iff_not, Bool.not_eq_true', Bool.not_eq_false', Bool.and_eq_true, Bool.or_eq_true, Bool.and_eq_false_iff, Bool.or_eq_false_iff, Option.isNone_some, Option.isSome_some, Option.isNone_none, Option.isSome_none, Int.not_lt, Int.not_le, beq_iff_eq, beq_eq_false_iff_ne, bne_iff_ne, ne_eq, Bool.not_not, Decidable.not_not] at h200
                              first
                              | first | exact absurd h183 h200 | exact absurd h200 h183
                              | refine JO.no rfl rfl rfl ?_
                                refine JO.no rfl rfl rfl ?_
                                refine JO.pur rfl rfl rfl (Pur.pickF rfl rfl) ?_
                                refine JO.pur rfl rfl rfl (Pur.assign rfl) ?_
                                refine JO.nil ?_
                                refine J.condF rfl rfl ?_
                                refine J.skip rfl ?_
                                refine J.inBlock ?_
                                refine J.inBlock ?_
                                refine J.region rfl ?_
                                refine JO.pur rfl rfl rfl (Pur.move rfl) ?_
                                refine JO.pur rfl rfl rfl (Pur.add rfl rfl (wr64 (by omega))) ?_
                                refine JO.pur rfl rfl rfl (Pur.assign rfl) ?_
                                refine JO.nil ?_
                                exact J.weaken (.cons rfl (congrArg (Value.int .i64) (by first | rfl | (dsimp only; omega))) (.cons rfl rfl (.cons rfl rfl (.cons rfl rfl (.cons rfl rfl (.cons rfl rfl (.cons rfl rfl .nil))))))) (by first | exact fun _ h => h | exact SubC.out | (dsimp only; exact SubC.out)) (ihy (y + 1) (by omega) (by omega))
                        · try simp only [decide_eq_true_eq, decide_eq_false_iff_not, Bool.not_eq_true', Bool.not_eq_false', Bool.and_eq_true, Bool.or_eq_true, Bool.and_eq_false_iff, Bool.or_eq_false_iff, Option.isNone_some, Option.isSome_some, Option.isNone_none, Option.isSome_none, Int.not_lt, Int.not_le, beq_iff_eq, beq_eq_false_iff_ne, bne_iff_ne, ne_eq, Bool.not_not, Decidable.not_not] at h195
                          first
                          | first | exact absurd h195 h178 | exact absurd h178 h195
                          | refine JO.no rfl rfl rfl ?_
                            refine JO.no rfl rfl rfl ?_
                            refine JO.no rfl rfl rfl ?_
                            refine JO.pur rfl rfl rfl (Pur.pickF rfl rfl) ?_
                            refine JO.pur rfl rfl rfl (Pur.move rfl) ?_
                            refine JO.no rfl rfl rfl ?_
                            refine JO.no rfl rfl rfl ?_
                            refine JO.pur rfl rfl rfl (Pur.pickF rfl rfl) ?_
                            refine JO.pur rfl rfl rfl (Pur.assign rfl) ?_
                            refine JO.nil ?_
                            refine J.condF rfl rfl ?_
                            refine J.skip rfl ?_
                            refine J.inBlock ?_
                            refine J.inBlock ?_
                            refine J.region rfl ?_
                            refine JO.pur rfl rfl rfl (Pur.move rfl) ?_
                            refine JO.pur rfl rfl rfl (Pur.add rfl rfl (wr64 (by omega))) ?_
                            refine JO.pur rfl rfl rfl (Pur.assign rfl) ?_
                            refine JO.nil ?_
                            exact J.weaken (.cons rfl (congrArg (Value.int .i64) (by first | rfl | (dsimp only; omega))) (.cons rfl rfl (.cons rfl rfl (.cons rfl rfl (.cons rfl rfl (.cons rfl rfl (.cons rfl rfl .nil))))))) (by first | exact fun _ h => h | exact SubC.out | (dsimp only; exact SubC.out)) (ihy (y + 1) (by omega) (by omega))
                  · try simp only [decide_eq_true_eq, decide_eq_false_iff_not, Bool.not_eq_true', Bool.not_eq_false', Bool.and_eq_true, Bool.or_eq_true, Bool.and_eq_false_iff, Bool.or_eq_false_iff, Option.isNone_some, Option.isSome_some, Option.isNone_none, Option.isSome_none, Int.not_lt, Int.not_le, beq_iff_eq, beq_eq_false_iff_ne, bne_iff_ne, ne_eq, Bool.not_not, Decidable.not_not] at h178
                    first
                    | (exfalso; revert h178; first | (rw [h140]; decide) | (rw [h155]; decide) | (rw [h166]; decide))
                    | refine JO.no rfl rfl rfl ?_
                      refine JO.no rfl rfl rfl ?_
                      refine JO.no rfl rfl rfl ?_
                      refine JO.pur rfl rfl rfl (Pur.pickF rfl rfl) ?_
                      refine JO.pur rfl rfl rfl (Pur.move rfl) ?_
                      refine JO.no rfl rfl rfl ?_
                      refine JO.no rfl rfl rfl ?_
                      refine JO.no rfl rfl rfl ?_
                      refine JO.no rfl rfl rfl ?_
                      refine JO.no rfl rfl rfl ?_
                      refine JO.no rfl rfl rfl ?_
                      refine JO.no rfl rfl rfl ?_
                      refine JO.pur rfl rfl rfl (Pur.pickF rfl rfl) ?_
                      refine JO.pur rfl rfl rfl (Pur.assign rfl) ?_
                      refine JO.nil ?_
                      refine J.condF rfl rfl ?_
                      refine J.seq rfl ?_
                      refine J.region rfl ?_
                      refine JO.pur rfl rfl rfl (Pur.move rfl) ?_
                      refine JO.pur rfl rfl rfl (Pur.eqlT rfl rfl) ?_
                      refine JO.pur rfl rfl rfl (Pur.move rfl) ?_
                      refine JO.splitB 195 rfl (fun h195 => ?_) (fun h195 => ?_)
                      · try simp only [decide_eq_true_eq, decide_eq_false_iff_not, Bool.not_eq_true', Bool.not_eq_false', Bool.and_eq_true, Bool.or_eq_true, Bool.and_eq_false_iff, Bool.or_eq_false_iff, Option.isNone_some, Option.isSome_some, Option.isNone_none, Option.isSome_none, Int.not_lt, Int.not_le, beq_iff_eq, beq_eq_false_iff_ne, bne_iff_ne, ne_eq, Bool.not_not, Decidable.not_not] at h195
                        first
                        | first | exact absurd h195 h178 | exact absurd h178 h195
                        | refine JO.pur rfl rfl rfl (Pur.move rfl) ?_
                          refine JO.pur rfl rfl rfl (Pur.move rfl) ?_
                          refine JO.pur rfl rfl rfl (Pur.neqI rfl rfl) ?_
                          refine JO.pur rfl rfl rfl (Pur.pickT rfl rfl) ?_
                          refine JO.pur rfl rfl rfl (Pur.move rfl) ?_
                          refine JO.splitB 200 rfl (fun h200 => ?_) (fun h200 => ?_)
                          · try simp only [decide_eq_true_eq, decide_eq_false_iff_not, Bool.not_eq_true', Bool.not_eq_false', Bool.and_eq_true, Bool.or_eq_true, Bool.and_eq_false_iff, Bool.or_eq_false_iff, Option.isNone_some, Option.isSome_some, Option.isNone_none, Option.isSome_none, Int.not_lt, Int.not_le, beq_iff_eq, beq_eq_false_iff_ne, bne_iff_ne, ne_eq, Bool.not_not, Decidable.not_not] at h200
                            first
                            | first | exact absurd h183 h200 | exact absurd h200 h183
                            | refine JO.pur rfl rfl rfl (Pur.move rfl) ?_
                              refine JO.pur rfl rfl rfl (Pur.neqI rfl rfl) ?_
                              refine JO.pur rfl rfl rfl (Pur.pickT rfl rfl) ?_
                              refine JO.pur rfl rfl rfl (Pur.assign rfl) ?_
                              refine JO.nil ?_
                              refine J.setv (u' := .bool false) 192 rfl (congrArg Value.bool (decide_eq_false (fun h => h (by rw [resT_red2 h195 h200])))) ?_
                              refine J.condF rfl rfl ?_
                              refine J.skip rfl ?_
                              refine J.inBlock ?_
                              refine J.inBlock ?_
                              refine J.region rfl ?_
                              refine JO.pur rfl rfl rfl (Pur.move rfl) ?_
                              refine JO.pur rfl rfl rfl (Pur.add rfl rfl (wr64 (by omega))) ?_
                              refine JO.pur rfl rfl rfl (Pur.assign rfl) ?_
                              refine JO.nil ?_
                              exact J.weaken (.cons rfl (congrArg (Value.int .i64) (by first | rfl | (dsimp only; omega))) (.cons rfl rfl (.cons rfl rfl (.cons rfl rfl (.cons rfl rfl (.cons rfl rfl (.cons rfl rfl .nil))))))) (by first | exact fun _ h => h | exact SubC.out | (dsimp only; exact SubC.out)) (ihy (y + 1) (by omega) (by omega))
                          · try simp only [decide_eq_true_eq, decide_eq_false_iff_not, Bool.not_eq_true', Bool.not_eq_false', Bool.and_eq_true, Bool.or_eq_true, Bool.and_eq_false_iff, Bool.or_eq_false_iff, Option.isNone_some, Option.isSome_some, Option.isNone_none, Option.isSome_none, Int.not_lt, Int.not_le, beq_iff_eq, beq_eq_false_iff_ne, bne_iff_ne, ne_eq, Bool.not_not, Decidable.not_not] at h200
                            first
                            | first | exact absurd h183 h200 | exact absurd h200 h183
                            | refine JO.no rfl rfl rfl ?_
                              refine JO.no rfl rfl rfl ?_
                              refine JO.pur rfl rfl rfl (Pur.pickF rfl rfl) ?_
                              refine JO.pur rfl rfl rfl (Pur.assign rfl) ?_
                              refine JO.nil ?_
                              refine J.condF rfl rfl ?_
                              refine J.skip rfl ?_
                              refine J.inBlock ?_
                              refine J.inBlock ?_
                              refine J.region rfl ?_
                              refine JO.pur rfl rfl rfl (Pur.move rfl) ?_
                              refine JO.pur rfl rfl rfl (Pur.add rfl rfl (wr64 (by omega))) ?_
                              refine JO.pur rfl rfl rfl (Pur.assign rfl) ?_
                              refine JO.nil ?_
                              exact J.weaken (.cons rfl (congrArg (Value.int .i64) (by first | rfl | (dsimp only; omega))) (.cons rfl rfl (.cons rfl rfl (.cons rfl rfl (.cons rfl rfl (.cons rfl rfl (.cons rfl rfl .nil))))))) (by first | exact fun _ h => h | exact SubC.out | (dsimp only; exact SubC.out)) (ihy (y + 1) (by omega) (by omega))
                      · try simp only [decide_eq_true_eq, decide_eq_false_iff_not, Bool.not_eq_true', Bool.not_eq_false', Bool.and_eq_true, Bool.or_eq_true, Bool.and_eq_false_iff, Bool.or_eq_false_iff, Option.isNone_some, Option.isSome_some, Option.isNone_none, Option.isSome_none, Int.not_lt, Int.not_le, beq_iff_eq, beq_eq_false_iff_ne, bne_iff_ne, ne_eq, Bool.not_not, Decidable.not_not] at h195
                        first
                        | first | exact absurd h195 h178 | exact absurd h178 h195
                        | refine JO.no rfl rfl rfl ?_
                          refine JO.no rfl rfl rfl ?_
                          refine JO.no rfl rfl rfl ?_
                          refine JO.pur rfl rfl rfl (Pur.pickF rfl rfl) ?_
                          refine JO.pur rfl rfl rfl (Pur.move rfl) ?_
                          refine JO.no rfl rfl rfl ?_
                          refine JO.no rfl rfl rfl ?_
                          refine JO.pur rfl rfl rfl (Pur.pickF rfl rfl) ?_
                          refine JO.pur rfl rfl rfl (Pur.assign rfl) ?_
                          refine JO.nil ?_
                          refine J.condF rfl rfl ?_
                          refine J.skip rfl ?_
                          refine J.inBlock ?_
                          refine J.inBlock ?_
                          refine J.region rfl ?_
                          refine JO.pur rfl rfl rfl (Pur.move rfl) ?_
                          refine JO.pur rfl rfl rfl (Pur.add rfl rfl (wr64 (by omega))) ?_
                          refine JO.pur rfl rfl rfl (Pur.assign rfl) ?_
                          refine JO.nil ?_
                          exact J.weaken (.cons rfl (congrArg (Value.int .i64) (by first | rfl | (dsimp only; omega))) (.cons rfl rfl (.cons rfl rfl (.cons rfl rfl (.cons rfl rfl (.cons rfl rfl (.cons rfl rfl .nil))))))) (by first | exact fun _ h => h | exact SubC.out | (dsimp only; exact SubC.out)) (ihy (y + 1) (by omega) (by omega))
        · try simp only [decide_eq_true_eq, decide_eq_false_iff_not, Bool.not_eq_true', Bool.not_eq_false', Bool.and_eq_true, Bool.or_eq_true, Bool.and_eq_false_iff, Bool.or_eq_false_iff, Option.isNone_some, Option.isSome_some, Option.isNone_none, Option.isSome_none, Int.not_lt, Int.not_le, beq_iff_eq, beq_eq_false_iff_ne, bne_iff_ne, ne_eq, Bool.not_not, Decidable.not_not] at h140
          refine JO.no rfl rfl rfl ?_
          refine JO.no rfl rfl rfl ?_
          refine JO.no rfl rfl rfl ?_
          refine JO.no rfl rfl rfl ?_
          refine JO.no rfl rfl rfl ?_
          refine JO.no rfl rfl rfl ?_
          refine JO.no rfl rfl rfl ?_
          refine JO.no rfl rfl rfl ?_
          refine JO.no rfl rfl rfl ?_
          refine JO.no rfl rfl rfl ?_
          refine JO.pur rfl rfl rfl (Pur.pickF rfl rfl) ?_
          refine JO.pur rfl rfl rfl (Pur.assign rfl) ?_
          refine JO.nil ?_
          refine J.condF rfl rfl ?_
          refine J.seq rfl ?_
          refine J.region rfl ?_
          refine JO.pur rfl rfl rfl (Pur.move rfl) ?_
          refine JO.pur rfl rfl rfl (Pur.eqlT rfl rfl) ?_
          refine JO.pur rfl rfl rfl (Pur.move rfl) ?_
          refine JO.splitB 155 rfl (fun h155 => ?_) (fun h155 => ?_)
          · try simp only [decide_eq_true_eq, decide_eq_false_iff_not, Bool.not_eq_true', Bool.not_eq_false', Bool.and_eq_true, Bool.or_eq_true, Bool.and_eq_false_iff, Bool.or_eq_false_iff, Option.isNone_some, Option.isSome_some, Option.isNone_none, Option.isSome_none, Int.not_lt, Int.not_le, beq_iff_eq, beq_eq_false_iff_ne, bne_iff_ne, ne_eq, Bool.not_not, Decidable.not_not] at h155
            first
            | (exfalso; revert h155; first | (rw [h140]; decide))
            | refine JO.pur rfl rfl rfl (Pur.move rfl) ?_
              refine JO.pur rfl rfl rfl (Pur.neqI rfl rfl) ?_
              refine JO.pur rfl rfl rfl (Pur.move rfl) ?_
              refine JO.setv (u' := .bool false) 158 rfl (congrArg Value.bool (decide_eq_false (fun h => h (by rw [resT_bar h155])))) ?_
              refine JO.pur rfl rfl rfl (Pur.move rfl) ?_
              refine JO.pur rfl rfl rfl (Pur.neqI rfl rfl) ?_
              refine JO.pur rfl rfl rfl (Pur.pickF rfl rfl) ?_
              refine JO.pur rfl rfl rfl (Pur.pickT rfl rfl) ?_
              refine JO.pur rfl rfl rfl (Pur.assign rfl) ?_
              refine JO.nil ?_
              refine J.setv (u' := .bool false) 152 rfl (congrArg Value.bool (decide_eq_false (fun h => h (by rw [resT_bar h155])))) ?_
              refine J.condF rfl rfl ?_
              refine J.seq rfl ?_
              refine J.region rfl ?_
              refine JO.pur rfl rfl rfl (Pur.move rfl) ?_
              refine JO.pur rfl rfl rfl (Pur.eqlT rfl rfl) ?_
              refine JO.pur rfl rfl rfl (Pur.move rfl) ?_
              refine JO.splitB 166 rfl (fun h166 => ?_) (fun h166 => ?_)
              · try simp only [decide_eq_true_eq, decide_eq_false_iff_not, Bool.not_eq_true', Bool.not_eq_false', Bool.and_eq_true, Bool.or_eq_true, Bool.and_eq_false_iff, Bool.or_eq_false_iff, Option.isNone_some, Option.isSome_some, Option.isNone_none, Option.isSome_none, Int.not_lt, Int.not_le, beq_iff_eq, beq_eq_false_iff_ne, bne_iff_ne, ne_eq, Bool.not_not, Decidable.not_not] at h166
                first
                | (exfalso; revert h166; first | (rw [h140]; decide) | (rw [h155]; decide))
                | refine JO.pur rfl rfl rfl (Pur.move rfl) ?_
                  refine JO.pur rfl rfl rfl (Pur.move rfl) ?_
                  refine JO.pur rfl rfl rfl (Pur.neqI rfl rfl) ?_
                  refine JO.pur rfl rfl rfl (Pur.move rfl) ?_
                  refine JO.setv (u' := .bool false) 170 rfl (congrArg Value.bool (decide_eq_false (fun h => h (by rw [resT_all h166])))) ?_
                  refine JO.pur rfl rfl rfl (Pur.move rfl) ?_
                  refine JO.pur rfl rfl rfl (Pur.neqI rfl rfl) ?_
                  refine JO.pur rfl rfl rfl (Pur.pickF rfl rfl) ?_
                  refine JO.pur rfl rfl rfl (Pur.pickT rfl rfl) ?_
                  refine JO.pur rfl rfl rfl (Pur.assign rfl) ?_
                  refine JO.nil ?_
                  refine J.setv (u' := .bool false) 163 rfl (congrArg Value.bool (decide_eq_false (fun h => h (by rw [resT_all h166])))) ?_
                  refine J.condF rfl rfl ?_
                  refine J.seq rfl ?_
                  refine J.region rfl ?_
                  refine JO.pur rfl rfl rfl (Pur.move rfl) ?_
                  refine JO.pur rfl rfl rfl (Pur.eqlT rfl rfl) ?_
                  refine JO.pur rfl rfl rfl (Pur.move rfl) ?_
                  refine JO.splitB 178 rfl (fun h178 => ?_) (fun h178 => ?_)
                  · try simp only [decide_eq_true_eq, decide_eq_false_iff_not, Bool.not_eq_true', Bool.not_eq_false', Bool.and_eq_true, Bool.or_eq_true, Bool.and_eq_false_iff, Bool.or_eq_false_iff, Option.isNone_some, Option.isSome_some, Option.isNone_none, Option.isSome_none, Int.not_lt, Int.not_le, beq_iff_eq, beq_eq_false_iff_ne, bne_iff_ne, ne_eq, Bool.not_not, Decidable.not_not] at h178
                    first
                    | (exfalso; revert h178; first | (rw [h140]; decide) | (rw [h155]; decide) | (rw [h166]; decide))
                    | refine JO.pur rfl rfl rfl (Pur.move rfl) ?_
                      refine JO.pur rfl rfl rfl (Pur.move rfl) ?_
                      refine JO.pur rfl rfl rfl (Pur.eqlI rfl rfl) ?_
                      refine JO.pur rfl rfl rfl (Pur.pickT rfl rfl) ?_
                      refine JO.pur rfl rfl rfl (Pur.move rfl) ?_
                      refine JO.splitB 183 rfl (fun h183 => ?_) (fun h183 => ?_)
                      · try simp only [decide_eq_true_eq, decide_eq_false_iff_not, Bool.not_eq_true', Bool.not_eq_false', Bool.and_eq_true, Bool.or_eq_true, Bool.and_eq_false_iff, Bool.or_eq_false_iff, Option.isNone_some, Option.isSome_some, Option.isNone_none, Option.isSome_none, Int.not_lt, Int.not_le, beq_iff_eq, beq_eq_false_iff_ne, bne_iff_ne, ne_eq, Bool.not_not, Decidable.not_not] at h183
                        refine JO.pur rfl rfl rfl (Pur.move rfl) ?_
                        refine JO.pur rfl rfl rfl (Pur.move rfl) ?_
                        refine JO.pur rfl rfl rfl (Pur.neqI rfl rfl) ?_
                        refine JO.pur rfl rfl rfl (Pur.move rfl) ?_
                        refine JO.setv (u' := .bool false) 187 rfl (congrArg Value.bool (decide_eq_false (fun h => h (by rw [resT_red1 h178 h183])))) ?_
                        refine JO.pur rfl rfl rfl (Pur.move rfl) ?_
                        refine JO.pur rfl rfl rfl (Pur.neqI rfl rfl) ?_
                        refine JO.pur rfl rfl rfl (Pur.pickF rfl rfl) ?_
                        refine JO.pur rfl rfl rfl (Pur.pickT rfl rfl) ?_
                        refine JO.pur rfl rfl rfl (Pur.assign rfl) ?_
                        refine JO.nil ?_
                        refine J.setv (u' := .bool false) 175 rfl (congrArg Value.bool (decide_eq_false (fun h => h (by rw [resT_red1 h178 h183])))) ?_
                        refine J.condF rfl rfl ?_
                        refine J.seq rfl ?_
                        refine J.region rfl ?_
                        refine JO.pur rfl rfl rfl (Pur.move rfl) ?_
                        refine JO.pur rfl rfl rfl (Pur.eqlT rfl rfl) ?_
                        refine JO.pur rfl rfl rfl (Pur.move rfl) ?_
                        refine JO.splitB 195 rfl (fun h195 => ?_) (fun h195 => ?_)
                        · try simp only [decide_eq_true_eq, decide_eq_false_iff_not, Bool.not_eq_true', Bool.not_eq_false', Bool.and_eq_true, Bool.or_eq_true, Bool.and_eq_false_iff, Bool.or_eq_false_iff, Option.isNone_some, Option.isSome_some, Option.isNone_none, Option.isSome_none, Int.not_lt, Int.not_le, beq_iff_eq, beq_eq_false_iff_ne, bne_iff_ne, ne_eq, Bool.not_not, Decidable.not_not] at h195
                          first
                          | first | exact absurd h195 h178 | exact absurd h178 h195
                          | refine JO.pur rfl rfl rfl (Pur.move rfl) ?_
                            refine JO.pur rfl rfl rfl (Pur.move rfl) ?_
                            refine JO.pur rfl rfl rfl (Pur.neqI rfl rfl) ?_
                            refine JO.pur rfl rfl rfl (Pur.pickT rfl rfl) ?_
                            refine JO.pur rfl rfl rfl (Pur.move rfl) ?_
                            refine JO.splitB 200 rfl (fun h200 => ?_) (fun h200 => ?_)
                            · try simp only [decide_eq_true_eq, decide_eq_false_iff_not, Bool.not_eq_true', Bool.not_eq_false', Bool.and_eq_true, Bool.or_eq_true, Bool.and_eq_false_iff, Bool.or_eq_false_iff, Option.isNone_some, Option.isSome_some, Option.isNone_none, Option.isSome_none, Int.not_lt, Int.not_le, beq_iff_eq, beq_eq_false_iff_ne, bne_iff_ne, ne_eq, Bool.not_not, Decidable.not_not] at h200
                              first
                              | first | exact absurd h183 h200 | exact absurd h200 h183
                              | refine JO.pur rfl rfl rfl (Pur.move rfl) ?_
                                refine JO.pur rfl rfl rfl (Pur.neqI rfl rfl) ?_
                                refine JO.pur rfl rfl rfl (Pur.pickT rfl rfl) ?_
                                refine JO.pur rfl rfl rfl (Pur.assign rfl) ?_
                                refine JO.nil ?_
                                refine J.setv (u' := .bool false) 192 rfl (congrArg Value.bool (decide_eq_false (fun h => h (by rw [resT_red2 h195 h200])))) ?_
                                refine J.condF rfl rfl ?_
                                refine J.skip rfl ?_
                                refine J.inBlock ?_
                                refine J.inBlock ?_
                                refine J.region rfl ?_
                                refine JO.pur rfl rfl rfl (Pur.move rfl) ?_
                                refine JO.pur rfl rfl rfl (Pur.add rfl rfl (wr64 (by omega))) ?_
                                refine JO.pur rfl rfl rfl (Pur.assign rfl) ?_
                                refine JO.nil ?_
                                exact J.weaken (.cons rfl (congrArg (Value.int .i64) (by first | rfl | (dsimp only; omega))) (.cons rfl rfl (.cons rfl rfl (.cons rfl rfl (.cons rfl rfl (.cons rfl rfl (.cons rfl rfl .nil))))))) (by first | exact fun _ h => h | exact SubC.out | (dsimp only; exact SubC.out)) (ihy (y + 1) (by omega) (by omega))
                            · try simp only [decide_eq_true_eq, decide_eq_false_iff_not, Bool.not_eq_true', Bool.not_eq_false', Bool.and_eq_true, Bool.or_eq_true, Bool.and_eq_false_iff, Bool.or_eq_false_iff, Option.isNone_some, Option.isSome_some, Option.isNone_none, Option.isSome_none, Int.not_lt, Int.not_le, beq_iff_eq, beq_eq_false_iff_ne, bne_iff_ne, ne_eq, Bool.not_not, Decidable.not_not] at h200
                              first
                              | first | exact absurd h183 h200 | exact absurd h200 h183
                              | refine JO.no rfl rfl rfl ?_
                                refine JO.no rfl rfl rfl ?_
                                refine JO.pur rfl rfl rfl (Pur.pickF rfl rfl) ?_
                                refine JO.pur rfl rfl rfl (Pur.assign rfl) ?_
                                refine JO.nil ?_
                                refine J.condF rfl rfl ?_
                                refine J.skip rfl ?_
                                refine J.inBlock ?_
                                refine J.inBlock ?_
                                refine J.region rfl ?_
                                refine JO.pur rfl rfl rfl (Pur.move rfl) ?_
                                refine JO.pur rfl rfl rfl (Pur.add rfl rfl (wr64 (by omega))) ?_
                                refine JO.pur rfl rfl rfl (Pur.assign rfl) ?_
                                refine JO.nil ?_
                                exact J.weaken (.cons rfl (congrArg (Value.int .i64) (by first | rfl | (dsimp only; omega))) (.cons rfl rfl (.cons rfl rfl (.cons rfl rfl (.cons rfl rfl (.cons rfl rfl (.cons rfl rfl .nil))))))) (by first | exact fun _ h => h | exact SubC.out | (dsimp only; exact SubC.out)) (ihy (y + 1) (by omega) (by omega))
                        · try simp only [decide_eq_true_eq, decide_eq_false_iff_not, Bool.not_eq_true', Bool.not_eq_false', Bool.and_eq_true, Bool.or_eq_true, Bool.and_eq_false_iff, Bool.or_eq_false_iff, Option.isNone_some, Option.isSome_some, Option.isNone_none, Option.isSome_none, Int.not_lt, Int.not_le, beq_iff_eq, beq_eq_false_iff_ne, bne_iff_ne, ne_eq, Bool.not_not, Decidable.not_not] at h195
                          first
                          | first | exact absurd h195 h178 | exact absurd h178 h195
                          | refine JO.no rfl rfl rfl ?_
                            refine JO.no rfl rfl rfl ?_
                            refine JO.no rfl rfl rfl ?_
                            refine JO.pur rfl rfl rfl (Pur.pickF rfl rfl) ?_
                            refine JO.pur rfl rfl rfl (Pur.move rfl) ?_
                            refine JO.no rfl rfl rfl ?_
                            refine JO.no rfl rfl rfl ?_
                            refine JO.pur rfl rfl rfl (Pur.pickF rfl rfl) ?_
                            refine JO.pur rfl rfl rfl (Pur.assign rfl) ?_
                            refine JO.nil ?_
                            refine J.condF rfl rfl ?_
                            refine J.skip rfl ?_
                            refine J.inBlock ?_
                            refine J.inBlock ?_
                            refine J.region rfl ?_
                            refine JO.pur rfl rfl rfl (Pur.move rfl) ?_
                            refine JO.pur rfl rfl rfl (Pur.add rfl rfl (wr64 (by omega))) ?_
                            refine JO.pur rfl rfl rfl (Pur.assign rfl) ?_
                            refine JO.nil ?_
                            exact J.weaken (.cons rfl (congrArg (Value.int .i64) (by first | rfl | (dsimp only; omega))) (.cons rfl rfl (.cons rfl rfl (.cons rfl rfl (.cons rfl rfl (.cons rfl rfl (.cons rfl rfl .nil))))))) (by first | exact fun _ h => h | exact SubC.out | (dsimp only; exact SubC.out)) (ihy (y + 1) (by omega) (by omega))
                      · try simp only [decide_eq_true_eq, decide_eq_false_iff_not, Bool.not_eq_true', Bool.not_eq_false', Bool.and_eq_true, Bool.or_eq_true, Bool.and_eq_false_iff, Bool.or_eq_false_iff, Option.isNone_some, Option.isSome_some, Option.isNone_none, Option.isSome_none, Int.not_lt, Int.not_le, beq_iff_eq, beq_eq_false_iff_ne, bne_iff_ne, ne_eq, Bool.not_not, Decidable.not_not] at h183
                        refine JO.no rfl rfl rfl ?_
                        refine JO.no rfl rfl rfl ?_
                        refine JO.no rfl rfl rfl ?_
                        refine JO.no rfl rfl rfl ?_
                        refine JO.no rfl rfl rfl ?_
                        refine JO.no rfl rfl rfl ?_
                        refine JO.no rfl rfl rfl ?_
                        refine JO.pur rfl rfl rfl (Pur.pickF rfl rfl) ?_
                        refine JO.pur rfl rfl rfl (Pur.assign rfl) ?_
                        refine JO.nil ?_
                        refine J.condF rfl rfl ?_
                        refine J.seq rfl ?_
                        refine J.region rfl ?_
                        refine JO.pur rfl rfl rfl (Pur.move rfl) ?_
                        refine JO.pur rfl rfl rfl (Pur.eqlT rfl rfl) ?_
                        refine JO.pur rfl rfl rfl (Pur.move rfl) ?_
                        refine JO.splitB 195 rfl (fun h195 => ?_) (fun h195 => ?_)
                        · try simp only [decide_eq_true_eq, decide_eq_false_iff_not, Bool.not_eq_true', Bool.not_eq_false', Bool.and_eq_true, Bool.or_eq_true, Bool.and_eq_false_iff, Bool.or_eq_false_iff, Option.isNone_some, Option.isSome_some, Option.isNone_none, Option.isSome_none, Int.not_lt, Int.not_le, beq_iff_eq, beq_eq_false_iff_ne, bne_iff_ne, ne_eq, Bool.not_not, Decidable.not_not] at h195
                          first
                          | first | exact absurd h195 h178 | exact absurd h178 h195
                          | refine JO.pur rfl rfl rfl (Pur.move rfl) ?_
                            refine JO.pur rfl rfl rfl (Pur.move rfl) ?_
                            refine JO.pur rfl rfl rfl (Pur.neqI rfl rfl) ?_
                            refine JO.pur rfl rfl rfl (Pur.pickT rfl rfl) ?_
                            refine JO.pur rfl rfl rfl (Pur.move rfl) ?_
                            refine JO.splitB 200 rfl (fun h200 => ?_) (fun h200 => ?_)
                            · try simp only [decide_eq_true_eq, decide_eq_false_iff_not, Bool.not_eq_true', Bool.not_eq_false', Bool.and_eq_true, Bool.or_eq_true, Bool.and_eq_false_iff, Bool.or_eq_false_iff, Option.isNone_some, Option.isSome_some, Option.isNone_none, Option.isSome_none, Int.not_lt, Int.not_le, beq_iff_eq, beq_eq_false_iff_ne, bne_iff_ne, ne_eq, Bool.not_not, Decidable.not_not] at h200
                              first
                              | first | exact absurd h183 h200 | exact absurd h200 h183
                              | refine JO.pur rfl rfl rfl (Pur.move rfl) ?_
                                refine JO.pur rfl rfl rfl (Pur.neqI rfl rfl) ?_
                                refine JO.pur rfl rfl rfl (Pur.pickT rfl rfl) ?_
                                refine JO.pur rfl rfl rfl (Pur.assign rfl) ?_
                                refine JO.nil ?_
                                refine J.setv (u' := .bool false) 192 rfl (congrArg Value.bool (decide_eq_false (fun h => h (by rw [resT_red2 h195 h200])))) ?_
                                refine J.condF rfl rfl ?_
                                refine J.skip rfl ?_
                                refine J.inBlock ?_
                                refine J.inBlock ?_
                                refine J.region rfl ?_
                                refine JO.pur rfl rfl rfl (Pur.move rfl) ?_
                                refine JO.pur rfl rfl rfl (Pur.add rfl rfl (wr64 (by omega))) ?_
                                refine JO.pur rfl rfl rfl (Pur.assign rfl) ?_
                                refine JO.nil ?_
                                exact J.weaken (.cons rfl (congrArg (Value.int .i64) (by first | rfl | (dsimp only; omega))) (.cons rfl rfl (.cons rfl rfl (.cons rfl rfl (.cons rfl rfl (.cons rfl rfl (.cons rfl rfl .nil))))))) (by first | exact fun _ h => h | exact SubC.out | (dsimp only; exact SubC.out)) (ihy (y + 1) (by omega) (by omega))
                            · try simp only [decide_eq_true_eq, decide_eq_false_iff_not, Bool.not_eq_true', Bool.not_eq_false', Bool.and_eq_true, Bool.or_eq_true, Bool.and_eq_false_iff, Bool.or_eq_false_iff, Option.isNone_some, Option.isSome_some, Option.isNone_none, Option.isSome_none, Int.not_lt, Int.not_le, beq_iff_eq, beq_eq_false_iff_ne, bne_iff_ne, ne_eq, Bool.not_not, Decidable.not_not] at h200
                              first
                              | first | exact absurd h183 h200 | exact absurd h200 h183
                              | refine JO.no rfl rfl rfl ?_
                                refine JO.no rfl rfl rfl ?_
                                refine JO.pur rfl rfl rfl (Pur.pickF rfl rfl) ?_
                                refine JO.pur rfl rfl rfl (Pur.assign rfl) ?_
                                refine JO.nil ?_
                                refine J.condF rfl rfl ?_
                                refine J.skip rfl ?_
                                refine J.inBlock ?_
                                refine J.inBlock ?_
                                refine J.region rfl ?_
                                refine JO.pur rfl rfl rfl (Pur.move rfl) ?_
                                refine JO.pur rfl rfl rfl (Pur.add rfl rfl (wr64 (by omega))) ?_
                                refine JO.pur rfl rfl rfl (Pur.assign rfl) ?_
                                refine JO.nil ?_
                                exact J.weaken (.cons rfl (congrArg (Value.int .i64) (by first | rfl | (dsimp only; omega))) (.cons rfl rfl (.cons rfl rfl (.cons rfl rfl (.cons rfl rfl (.cons rfl rfl (.cons rfl rfl .nil))))))) (by first | exact fun _ h => h | exact SubC.out | (dsimp only; exact SubC.out)) (ihy (y + 1) (by omega) (by omega))
                        · try simp only [decide_eq_true_eq, decide_eq_false_iff_not, Bool.not_eq_true', Bool.not_eq_false', Bool.and_eq_true, Bool.or_eq_true, Bool.and_eq_false_iff, Bool.or_eq_false_iff, Option.isNone_some, Option.isSome_some, Option.isNone_none, Option.isSome_none, Int.not_lt, Int.not_le, beq_iff_eq, beq_eq_false_iff_ne, bne_iff_ne, ne_eq, Bool.not_not, Decidable.not_not] at h195
                          first
                          | first | exact absurd h195 h178 | exact absurd h178 h195
                          | refine JO.no rfl rfl rfl ?_
                            refine JO.no rfl rfl rfl ?_
                            refine JO.no rfl rfl rfl ?_
                            refine JO.pur rfl rfl rfl (Pur.pickF rfl rfl) ?_
                            refine JO.pur rfl rfl rfl (Pur.move rfl) ?_
                            refine JO.no rfl rfl rfl ?_
                            refine JO.no rfl rfl rfl ?_
                            refine JO.pur rfl rfl rfl (Pur.pickF rfl rfl) ?_
                            refine JO.pur rfl rfl rfl (Pur.assign rfl) ?_
                            refine JO.nil ?_
                            refine J.condF rfl rfl ?_
                            refine J.skip rfl ?_
                            refine J.inBlock ?_
                            refine J.inBlock ?_
                            refine J.region rfl ?_
                            refine JO.pur rfl rfl rfl (Pur.move rfl) ?_
                            refine JO.pur rfl rfl rfl (Pur.add rfl rfl (wr64 (by omega))) ?_
                            refine JO.pur rfl rfl rfl (Pur.assign rfl) ?_
                            refine JO.nil ?_
                            exact J.weaken (.cons rfl (congrArg (Value.int .i64) (by first | rfl | (dsimp only; omega))) (.cons rfl rfl (.cons rfl rfl (.cons rfl rfl (.cons rfl rfl (.cons rfl rfl (.cons rfl rfl .nil))))))) (by first | exact fun _ h => h | exact SubC.out | (dsimp only; exact SubC.out)) (ihy (y + 1) (by omega) (by omega))
                  · try simp only [decide_eq_true_eq, decide_eq_false_iff_not, Bool.not_eq_true', Bool.not_eq_false', Bool.and_eq_true, Bool.or_eq_true, Bool.and_eq_false_iff, Bool.or_eq_false_iff, Option.isNone_some, Option.isSome_some, Option.isNone_none, Option.isSome_none, Int.not_lt, Int.not_le, beq_iff_eq, beq_eq_false_iff_ne, bne_iff_ne, ne_eq, Bool.not_not, Decidable.not_not] at h178
                    first
                    | (exfalso; revert h178; first | (rw [h140]; decide) | (rw [h155]; decide) | (rw [h166]; decide))
                    | refine JO.no rfl rfl rfl ?_
                      refine JO.no rfl rfl rfl ?_
                      refine JO.no rfl rfl rfl ?_
                      refine JO.pur rfl rfl rfl (Pur.pickF rfl rfl) ?_
                      refine JO.pur rfl rfl rfl (Pur.move rfl) ?_
                      refine JO.no rfl rfl rfl ?_
                      refine JO.no rfl rfl rfl ?_
                      refine JO.no rfl rfl rfl ?_
                      refine JO.no rfl rfl rfl ?_
                      refine JO.no rfl rfl rfl ?_
                      refine JO.no rfl rfl rfl ?_
                      refine JO.no rfl rfl rfl ?_
                      refine JO.pur rfl rfl rfl (Pur.pickF rfl rfl) ?_
                      refine JO.pur rfl rfl rfl (Pur.assign rfl) ?_
                      refine JO.nil ?_
                      refine J.condF rfl rfl ?_
                      refine J.seq rfl ?_
                      refine J.region rfl ?_
                      refine JO.pur rfl rfl rfl (Pur.move rfl) ?_
                      refine JO.pur rfl rfl rfl (Pur.eqlT rfl rfl) ?_
                      refine JO.pur rfl rfl rfl (Pur.move rfl) ?_
                      refine JO.splitB 195 rfl (fun h195 => ?_) (fun h195 => ?_)
                      · try simp only [decide_eq_true_eq, decide_eq_false_iff_not, Bool.not_eq_true', Bool.not_eq_false', Bool.and_eq_true, Bool.or_eq_true, Bool.and_eq_false_iff, Bool.or_eq_false_iff, Option.isNone_some, Option.isSome_some, Option.isNone_none, Option.isSome_none, Int.not_lt, Int.not_le, beq_iff_eq, beq_eq_false_iff_ne, bne_iff_ne, ne_eq, Bool.not_not, Decidable.not_not] at h195
                        first
                        | first | exact absurd h195 h178 | exact absurd h178 h195
                        | refine JO.pur rfl rfl rfl (Pur.move rfl) ?_
                          refine JO.pur rfl rfl rfl (Pur.move rfl) ?_
                          refine JO.pur rfl rfl rfl (Pur.neqI rfl rfl) ?_
                          refine JO.pur rfl rfl rfl (Pur.pickT rfl rfl) ?_
                          refine JO.pur rfl rfl rfl (Pur.move rfl) ?_
                          refine JO.splitB 200 rfl (fun h200 => ?_) (fun h200 => ?_)
                          · try simp only [decide_eq_true_eq, decide_eq_false_iff_not, Bool.not_eq_true', Bool.not_eq_false', Bool.and_eq_true, Bool.or_eq_true, Bool.and_eq_false_iff, Bool.or_eq_false_iff, Option.isNone_some, Option.isSome_some, Option.isNone_none, Option.isSome_none, Int.not_lt, Int.not_le, beq_iff_eq, beq_eq_false_iff_ne, bne_iff_ne, ne_eq, Bool.not_not, Decidable.not_not] at h200
                            first
                            | first | exact absurd h183 h200 | exact absurd h200 h183
                            | refine JO.pur rfl rfl rfl (Pur.move rfl) ?_
                              refine JO.pur rfl rfl rfl (Pur.neqI rfl rfl) ?_
                              refine JO.pur rfl rfl rfl (Pur.pickT rfl rfl) ?_
                              refine JO.pur rfl rfl rfl (Pur.assign rfl) ?_
                              refine JO.nil ?_
                              refine J.setv (u' := .bool false) 192 rfl (congrArg Value.bool (decide_eq_false (fun h => h (by rw [resT_red2 h195 h200])))) ?_
                              refine J.condF rfl rfl ?_
                              refine J.skip rfl ?_
                              refine J.inBlock ?_
                              refine J.inBlock ?_
                              refine J.region rfl ?_
                              refine JO.pur rfl rfl rfl (Pur.move rfl) ?_
                              refine JO.pur rfl rfl rfl (Pur.add rfl rfl (wr64 (by omega))) ?_
                              refine JO.pur rfl rfl rfl (Pur.assign rfl) ?_
                              refine JO.nil ?_
                              exact J.weaken (.cons rfl (congrArg (Value.int .i64) (by first | rfl | (dsimp only; omega))) (.cons rfl rfl (.cons rfl rfl (.cons rfl rfl (.cons rfl rfl (.cons rfl rfl (.cons rfl rfl .nil))))))) (by first | exact fun _ h => h | exact SubC.out | (dsimp only; exact SubC.out)) (ihy (y + 1) (by omega) (by omega))
                          · try simp only [decide_eq_true_eq, decide_eq_false_iff_not, Bool.not_eq_true', Bool.not_eq_false', Bool.and_eq_true, Bool.or_eq_true, Bool.and_eq_false_iff, Bool.or_eq_false_iff, Option.isNone_some, Option.isSome_some, Option.isNone_none, Option.isSome_none, Int.not_lt, Int.not_le, beq_iff_eq, beq_eq_false_iff_ne, bne_iff_ne, ne_eq, Bool.not_not, Decidable.not_not] at h200
                            first
                            | first | exact absurd h183 h200 | exact absurd h200 h183
                            | refine JO.no rfl rfl rfl ?_
                              refine JO.no rfl rfl rfl ?_
                              refine JO.pur rfl rfl rfl (Pur.pickF rfl rfl) ?_
                              refine JO.pur rfl rfl rfl (Pur.assign rfl) ?_
                              refine JO.nil ?_
                              refine J.condF rfl rfl ?_
                              refine J.skip rfl ?_
                              refine J.inBlock ?_
                              refine J.inBlock ?_
                              refine J.region rfl ?_
                              refine JO.pur rfl rfl rfl (Pur.move rfl) ?_
                              refine JO.pur rfl rfl rfl (Pur.add rfl rfl (wr64 (by omega))) ?_
                              refine JO.pur rfl rfl rfl (Pur.assign rfl) ?_
                              refine JO.nil ?_
                              exact J.weaken (.cons rfl (congrArg (Value.int .i64) (by first | rfl | (dsimp only; omega))) (.cons rfl rfl (.cons rfl rfl (.cons rfl rfl (.cons rfl rfl (.cons rfl rfl (.cons rfl rfl .nil))))))) (by first | exact fun _ h => h | exact SubC.out | (dsimp only; exact SubC.out)) (ihy (y + 1) (by omega) (by omega))
                      · try simp only [decide_eq_true_eq, decide_eq_false_iff_not, Bool.not_eq_true', Bool.not_eq_false', Bool.and_eq_true, Bool.or_eq_true, Bool.and_eq_false_iff, Bool.or_eq_false_iff, Option.isNone_some, Option.isSome_some, Option.isNone_none, Option.isSome_none, Int.not_lt, Int.not_le, beq_iff_eq, beq_eq_false_iff_ne, bne_iff_ne, ne_eq, Bool.not_not, Decidable.not_not] at h195
                        first
                        | first | exact absurd h195 h178 | exact absurd h178 h195
                        | refine JO.no rfl rfl rfl ?_
                          refine JO.no rfl rfl rfl ?_
                          refine JO.no rfl rfl rfl ?_
                          refine JO.pur rfl rfl rfl (Pur.pickF rfl rfl) ?_
                          refine JO.pur rfl rfl rfl (Pur.move rfl) ?_
                          refine JO.no rfl rfl rfl ?_
                          refine JO.no rfl rfl rfl ?_
                          refine JO.pur rfl rfl rfl (Pur.pickF rfl rfl) ?_
                          refine JO.pur rfl rfl rfl (Pur.assign rfl) ?_
                          refine JO.nil ?_
                          refine J.condF rfl rfl ?_
                          refine J.skip rfl ?_
                          refine J.inBlock ?_
                          refine J.inBlock ?_
                          refine J.region rfl ?_
                          refine JO.pur rfl rfl rfl (Pur.move rfl) ?_
                          refine JO.pur rfl rfl rfl (Pur.add rfl rfl (wr64 (by omega))) ?_
                          refine JO.pur rfl rfl rfl (Pur.assign rfl) ?_
                          refine JO.nil ?_
                          exact J.weaken (.cons rfl (congrArg (Value.int .i64) (by first | rfl | (dsimp only; omega))) (.cons rfl rfl (.cons rfl rfl (.cons rfl rfl (.cons rfl rfl (.cons rfl rfl (.cons rfl rfl .nil))))))) (by first | exact fun _ h => h | exact SubC.out | (dsimp only; exact SubC.out)) (ihy (y + 1) (by omega) (by omega))
              · try simp only [decide_eq_true_eq, decide_eq_false_iff_not, Bool.not_eq_true', Bool.not_eq_false', Bool.and_eq_true, Bool.or_eq_true, Bool.and_eq_false_iff, Bool.or_eq_false_iff, Option.isNone_some, Option.isSome_some, Option.isNone_none, Option.isSome_none, Int.not_lt, Int.not_le, beq_iff_eq, beq_eq_false_iff_ne, bne_iff_ne, ne_eq, Bool.not_not, Decidable.not_not] at h166
                first
                | (exfalso; revert h166; first | (rw [h140]; decide) | (rw [h155]; decide))
                | refine JO.no rfl rfl rfl ?_
                  refine JO.no rfl rfl rfl ?_
                  refine JO.no rfl rfl rfl ?_
                  refine JO.no rfl rfl rfl ?_
                  refine JO.no rfl rfl rfl ?_
                  refine JO.no rfl rfl rfl ?_
                  refine JO.no rfl rfl rfl ?_
                  refine JO.pur rfl rfl rfl (Pur.pickF rfl rfl) ?_
                  refine JO.pur rfl rfl rfl (Pur.assign rfl) ?_
                  refine JO.nil ?_
                  refine J.condF rfl rfl ?_
                  refine J.seq rfl ?_
                  refine J.region rfl ?_
                  refine JO.pur rfl rfl rfl (Pur.move rfl) ?_
                  refine JO.pur rfl rfl rfl (Pur.eqlT rfl rfl) ?_
                  refine JO.pur rfl rfl rfl (Pur.move rfl) ?_
                  refine JO.splitB 178 rfl (fun h178 => ?_) (fun h178 => ?_)
                  · try simp only [decide_eq_true_eq, decide_eq_false_iff_not, Bool.not_eq_true', Bool.not_eq_false', Bool.and_eq_true, Bool.or_eq_true, Bool.and_eq_false_iff, Bool.or_eq_false_iff, Option.isNone_some, Option.isSome_some, Option.isNone_none, Option.isSome_none, Int.not_lt, Int.not_le, beq_iff_eq, beq_eq_false_iff_ne, bne_iff_ne, ne_eq, Bool.not_not, Decidable.not_not] at h178
                    first
                    | (exfalso; revert h178; first | (rw [h140]; decide) | (rw [h155]; decide) | (rw [h166]; decide))
                    | refine JO.pur rfl rfl rfl (Pur.move rfl) ?_
                      refine JO.pur rfl rfl rfl (Pur.move rfl) ?_
                      refine JO.pur rfl rfl rfl (Pur.eqlI rfl rfl) ?_
                      refine JO.pur rfl rfl rfl (Pur.pickT rfl rfl) ?_
                      refine JO.pur rfl rfl rfl (Pur.move rfl) ?_
                      refine JO.splitB 183 rfl (fun h183 => ?_) (fun h183 => ?_)
                      · try simp only [decide_eq_true_eq, decide_eq_false_iff_not, Bool.not_eq_true', Bool.not_eq_false', Bool.and_eq_true, Bool.or_eq_true, Bool.and_eq_false_iff, Bool.or_eq_false_iff, Option.isNone_some, Option.isSome_some, Option.isNone_none, Option.isSome_none, Int.not_lt, Int.not_le, beq_iff_eq, beq_eq_false_iff_ne, bne_iff_ne, ne_eq, Bool.not_not, Decidable.not_not] at h183
                        refine JO.pur rfl rfl rfl (Pur.move rfl) ?_
                        refine JO.pur rfl rfl rfl (Pur.move rfl) ?_
                        refine JO.pur rfl rfl rfl (Pur.neqI rfl rfl) ?_
                        refine JO.pur rfl rfl rfl (Pur.move rfl) ?_
                        refine JO.setv (u' := .bool false) 187 rfl (congrArg Value.bool (decide_eq_false (fun h => h (by rw [resT_red1 h178 h183])))) ?_
                        refine JO.pur rfl rfl rfl (Pur.move rfl) ?_
                        refine JO.pur rfl rfl rfl (Pur.neqI rfl rfl) ?_
                        refine JO.pur rfl rfl rfl (Pur.pickF rfl rfl) ?_
                        refine JO.pur rfl rfl rfl (Pur.pickT rfl rfl) ?_
                        refine JO.pur rfl rfl rfl (Pur.assign rfl) ?_
                        refine JO.nil ?_
                        refine J.setv (u' := .bool false) 175 rfl (congrArg Value.bool (decide_eq_false (fun h => h (by rw [resT_red1 h178 h183])))) ?_
                        refine J.condF rfl rfl ?_
                        refine J.seq rfl ?_
                        refine J.region rfl ?_
                        refine JO.pur rfl rfl rfl (Pur.move rfl) ?_
                        refine JO.pur rfl rfl rfl (Pur.eqlT rfl rfl) ?_
                        refine JO.pur rfl rfl rfl (Pur.move rfl) ?_
                        refine JO.splitB 195 rfl (fun h195 => ?_) (fun h195 => ?_)
                        · try simp only [decide_eq_true_eq, decide_eq_false_iff_not, Bool.not_eq_true', Bool.not_eq_false', Bool.and_eq_true, Bool.or_eq_true, Bool.and_eq_false_iff, Bool.or_eq_false_iff, Option.isNone_some, Option.isSome_some, Option.isNone_none, Option.isSome_none, Int.not_lt, Int.not_le, beq_iff_eq, beq_eq_false_iff_ne, bne_iff_ne, ne_eq, Bool.not_not, Decidable.not_not] at h195
                          first
                          | first | exact absurd h195 h178 | exact absurd h178 h195
                          | refine JO.pur rfl rfl rfl (Pur.move rfl) ?_
                            refine JO.pur rfl rfl rfl (Pur.move rfl) ?_
                            refine JO.pur rfl rfl rfl (Pur.neqI rfl rfl) ?_
                            refine JO.pur rfl rfl rfl (Pur.pickT rfl rfl) ?_
                            refine JO.pur rfl rfl rfl (Pur.move rfl) ?_
                            refine JO.splitB 200 rfl (fun h200 => ?_) (fun h200 => ?_)
                            · try simp only [decide_eq_true_eq, decide_eq_false_iff_not, Bool.not_eq_true', Bool.not_eq_false', Bool.and_eq_true, Bool.or_eq_true, Bool.and_eq_false_iff, Bool.or_eq_false_iff, Option.isNone_some, Option.isSome_some, Option.isNone_none, Option.isSome_none, Int.not_lt, Int.not_le, beq_iff_eq, beq_eq_false_iff_ne, bne_iff_ne, ne_eq, Bool.not_not, Decidable.not_not] at h200
                              first
                              | first | exact absurd h183 h200 | exact absurd h200 h183
                              | refine JO.pur rfl rfl rfl (Pur.move rfl) ?_
                                refine JO.pur rfl rfl rfl (Pur.neqI rfl rfl) ?_
                                refine JO.pur rfl rfl rfl (Pur.pickT rfl rfl) ?_
                                refine JO.pur rfl rfl rfl (Pur.assign rfl) ?_
                                refine JO.nil ?_
                                refine J.setv (u' := .bool false) 192 rfl (congrArg Value.bool (decide_eq_false (fun h => h (by rw [resT_red2 h195 h200])))) ?_
                                refine J.condF rfl rfl ?_
                                refine J.skip rfl ?_
                                refine J.inBlock ?_
                                refine J.inBlock ?_
                                refine J.region rfl ?_
                                refine JO.pur rfl rfl rfl (Pur.move rfl) ?_
                                refine JO.pur rfl rfl rfl (Pur.add rfl rfl (wr64 (by omega))) ?_
                                refine JO.pur rfl rfl rfl (Pur.assign rfl) ?_
                                refine JO.nil ?_
                                exact J.weaken (.cons rfl (congrArg (Value.int .i64) (by first | rfl | (dsimp only; omega))) (.cons rfl rfl (.cons rfl rfl (.cons rfl rfl (.cons rfl rfl (.cons rfl rfl (.cons rfl rfl .nil))))))) (by first | exact fun _ h => h | exact SubC.out | (dsimp only; exact SubC.out)) (ihy (y + 1) (by omega) (by omega))
                            · try simp only [decide_eq_true_eq, decide_eq_false_iff_not, Bool.not_eq_true', Bool.not_eq_false', Bool.and_eq_true, Bool.or_eq_true, Bool.and_eq_false_iff, Bool.or_eq_false_iff, Option.isNone_some, Option.isSome_some, Option.isNone_none, Option.isSome_none, Int.not_lt, Int.not_le, beq_iff_eq, beq_eq_false_iff_ne, bne_iff_ne, ne_eq, Bool.not_not, Decidable.not_not] at h200
                              first
                              | first | exact absurd h183 h200 | exact absurd h200 h183
                              | refine JO.no rfl rfl rfl ?_
                                refine JO.no rfl rfl rfl ?_
                                refine JO.pur rfl rfl rfl (Pur.pickF rfl rfl) ?_
                                refine JO.pur rfl rfl rfl (Pur.assign rfl) ?_
                                refine JO.nil ?_
                                refine J.condF rfl rfl ?_
                                refine J.skip rfl ?_
                                refine J.inBlock ?_
                                refine J.inBlock ?_
                                refine J.region rfl ?_
                                refine JO.pur rfl rfl rfl (Pur.move rfl) ?_
                                refine JO.pur rfl rfl rfl (Pur.add rfl rfl (wr64 (by omega))) ?_
                                refine JO.pur rfl rfl rfl (Pur.assign rfl) ?_
                                refine JO.nil ?_
                                exact J.weaken (.cons rfl (congrArg (Value.int .i64) (by first | rfl | (dsimp only; omega))) (.cons rfl rfl (.cons rfl rfl (.cons rfl rfl (.cons rfl rfl (.cons rfl rfl (.cons rfl rfl .nil))))))) (by first | exact fun _ h => h | exact SubC.out | (dsimp only; exact SubC.out)) (ihy (y + 1) (by omega) (by omega))
                        · try simp only [decide_eq_true_eq, decide_eq_false_iff_not, Bool.not_eq_true', Bool.not_eq_false', Bool.and_eq_true, Bool.or_eq_true, Bool.and_eq_false_iff, Bool.or_eq_false_iff, Option.isNone_some, Option.isSome_some, Option.isNone_none, Option.isSome_none, Int.not_lt, Int.not_le, beq_iff_eq, beq_eq_false_iff_ne, bne_iff_ne, ne_eq, Bool.not_not, Decidable.not_not] at h195
                          first
                          | first | exact absurd h195 h178 | exact absurd h178 h195
                          | refine JO.no rfl rfl rfl ?_
                            refine JO.no rfl rfl rfl ?_
                            refine JO.no rfl rfl rfl ?_
                            refine JO.pur rfl rfl rfl (Pur.pickF rfl rfl) ?_
                            refine JO.pur rfl rfl rfl (Pur.move rfl) ?_
                            refine JO.no rfl rfl rfl ?_
                            refine JO.no rfl rfl rfl ?_
                            refine JO.pur rfl rfl rfl (Pur.pickF rfl rfl) ?_
                            refine JO.pur rfl rfl rfl (Pur.assign rfl) ?_
                            refine JO.nil ?_
                            refine J.condF rfl rfl ?_
                            refine J.skip rfl ?_
                            refine J.inBlock ?_
                            refine J.inBlock ?_
                            refine J.region rfl ?_
                            refine JO.pur rfl rfl rfl (Pur.move rfl) ?_
                            refine JO.pur rfl rfl rfl (Pur.add rfl rfl (wr64 (by omega))) ?_
                            refine JO.pur rfl rfl rfl (Pur.assign rfl) ?_
                            refine JO.nil ?_
                            exact J.weaken (.cons rfl (congrArg (Value.int .i64) (by first | rfl | (dsimp only; omega))) (.cons rfl rfl (.cons rfl rfl (.cons rfl rfl (.cons rfl rfl (.cons rfl rfl (.cons rfl rfl .nil))))))) (by first | exact fun _ h => h | exact SubC.out | (dsimp only; exact SubC.out)) (ihy (y + 1) (by omega) (by omega))
                      · try simp only [decide_eq_true_eq, decide_eq_false_iff_not, Bool.not_eq_true', Bool.not_eq_false', Bool.and_eq_true, Bool.or_eq_true, Bool.and_eq_false_iff, Bool.or_eq_false_iff, Option.isNone_some, Option.isSome_some, Option.isNone_none, Option.isSome_none, Int.not_lt, Int.not_le, beq_iff_eq, beq_eq_false_iff_ne, bne_iff_ne, ne_eq, Bool.not_not, Decidable.not_not] at h183
                        refine JO.no rfl rfl rfl ?_
                        refine JO.no rfl rfl rfl ?_
                        refine JO.no rfl rfl rfl ?_
                        refine JO.no rfl rfl rfl ?_
                        refine JO.no rfl rfl rfl ?_
                        refine JO.no rfl rfl rfl ?_
                        refine JO.no rfl rfl rfl ?_
                        refine JO.pur rfl rfl rfl (Pur.pickF rfl rfl) ?_
                        refine JO.pur rfl rfl rfl (Pur.assign rfl) ?_
                        refine JO.nil ?_
                        refine J.condF rfl rfl ?_
                        refine J.seq rfl ?_
                        refine J.region rfl ?_
                        refine JO.pur rfl rfl rfl (Pur.move rfl) ?_
                        refine JO.pur rfl rfl rfl (Pur.eqlT rfl rfl) ?_
                        refine JO.pur rfl rfl rfl (Pur.move rfl) ?_
                        refine JO.splitB 195 rfl (fun h195 => ?_) (fun h195 => ?_)
                        · try simp only [decide_eq_true_eq, decide_eq_false_iff_not, Bool.not_eq_true', Bool.not_eq_false', Bool.and_eq_true, Bool.or_eq_true, Bool.and_eq_false_iff, Bool.or_eq_false_iff, Option.isNone_some, Option.isSome_some, Option.isNone_none, Option.isSome_none, Int.not_lt, Int.not_le, beq_iff_eq, beq_eq_false_iff_ne, bne_iff_ne, ne_eq, Bool.not_not, Decidable.not_not] at h195
                          first
                          | first | exact absurd h195 h178 | exact absurd h178 h195
                          | refine JO.pur rfl rfl rfl (Pur.move rfl) ?_
                            refine JO.pur rfl rfl rfl (Pur.move rfl) ?_
                            refine JO.pur rfl rfl rfl (Pur.neqI rfl rfl) ?_
                            refine JO.pur rfl rfl rfl (Pur.pickT rfl rfl) ?_
                            refine JO.pur rfl rfl rfl (Pur.move rfl) ?_
                            refine JO.splitB 200 rfl (fun h200 => ?_) (fun h200 => ?_)
                            · try simp only [decide_eq_true_eq, decide_eq_false_iff_not, Bool.not_eq_true', Bool.not_eq_false', Bool.and_eq_true, Bool.or_eq_true, Bool.and_eq_false_iff, Bool.or_eq_false_iff, Option.isNone_some, Option.isSome_some, Option.isNone_none, Option.isSome_none, Int.not_lt, Int.not_le, beq_iff_eq, beq_eq_false_iff_ne, bne_iff_ne, ne_eq, Bool.not_not, Decidable.not_not] at h200
                              first
                              | first | exact absurd h183 h200 | exact absurd h200 h183
                              | refine JO.pur rfl rfl rfl (Pur.move rfl) ?_
                                refine JO.pur rfl rfl rfl (Pur.neqI rfl rfl) ?_
                                refine JO.pur rfl rfl rfl (Pur.pickT rfl rfl) ?_
                                refine JO.pur rfl rfl rfl (Pur.assign rfl) ?_
                                refine JO.nil ?_
                                refine J.setv (u' := .bool false) 192 rfl (congrArg Value.bool (decide_eq_false (fun h => h (by rw [resT_red2 h195 h200])))) ?_
                                refine J.condF rfl rfl ?_
                                refine J.skip rfl ?_
                                refine J.inBlock ?_
                                refine J.inBlock ?_
                                refine J.region rfl ?_
                                refine JO.pur rfl rfl rfl (Pur.move rfl) ?_
                                refine JO.pur rfl rfl rfl (Pur.add rfl rfl (wr64 (by omega))) ?_
                                refine JO.pur rfl rfl rfl (Pur.assign rfl) ?_
                                refine JO.nil ?_
                                exact J.weaken (.cons rfl (congrArg (Value.int .i64) (by first | rfl | (dsimp only; omega))) (.cons rfl rfl (.cons rfl rfl (.cons rfl rfl (.cons rfl rfl (.cons rfl rfl (.cons rfl rfl .nil))))))) (by first | exact fun _ h => h | exact SubC.out | (dsimp only; exact SubC.out)) (ihy (y + 1) (by omega) (by omega))
                            · try simp only [decide_eq_true_eq, decide_eq_false_iff_not, Bool.not_eq_true', Bool.not_eq_false', Bool.and_eq_true, Bool.or_eq_true, Bool.and_eq_false_iff, Bool.or_eq_false_iff, Option.isNone_some, Option.isSome_some, Option.isNone_none, Option.isSome_none, Int.not_lt, Int.not_le, beq_iff_eq, beq_eq_false_iff_ne, bne_iff_ne, ne_eq, Bool.not_not, Decidable.not_not] at h200
                              first
                              | first | exact absurd h183 h200 | exact absurd h200 h183
                              | refine JO.no rfl rfl rfl ?_
                                refine JO.no rfl rfl rfl ?_
                                refine JO.pur rfl rfl rfl (Pur.pickF rfl rfl) ?_
                                refine JO.pur rfl rfl rfl (Pur.assign rfl) ?_
                                refine JO.nil ?_
                                refine J.condF rfl rfl ?_
                                refine J.skip rfl ?_
                                refine J.inBlock ?_
                                refine J.inBlock ?_
                                refine J.region rfl ?_
                                refine JO.pur rfl rfl rfl (Pur.move rfl) ?_
                                refine JO.pur rfl rfl rfl (Pur.add rfl rfl (wr64 (by omega))) ?_
                                refine JO.pur rfl rfl rfl (Pur.assign rfl) ?_
                                refine JO.nil ?_
                                exact J.weaken (.cons rfl (congrArg (Value.int .i64) (by first | rfl | (dsimp only; omega))) (.cons rfl rfl (.cons rfl rfl (.cons rfl rfl (.cons rfl rfl (.cons rfl rfl (.cons rfl rfl .nil))))))) (by first | exact fun _ h => h | exact SubC.out | (dsimp only; exact SubC.out)) (ihy (y + 1) (by omega) (by omega))
                        · try simp only [decide_eq_true_eq, decide_eq_false_iff_not, Bool.not_eq_true', Bool.not_eq_false', Bool.and_eq_true, Bool.or_eq_true, Bool.and_eq_false_iff, Bool.or_eq_false_iff, Option.isNone_some, Option.isSome_some, Option.isNone_none, Option.isSome_none, Int.not_lt, Int.not_le, beq_iff_eq, beq_eq_false_iff_ne, bne_iff_ne, ne_eq, Bool.not_not, Decidable.not_not] at h195
                          first
                          | first | exact absurd h195 h178 | exact absurd h178 h195
                          | refine JO.no rfl rfl rfl ?_
                            refine JO.no rfl rfl rfl ?_
                            refine JO.no rfl rfl rfl ?_
                            refine JO.pur rfl rfl rfl (Pur.pickF rfl rfl) ?_
                            refine JO.pur rfl rfl rfl (Pur.move rfl) ?_
                            refine JO.no rfl rfl rfl ?_
                            refine JO.no rfl rfl rfl ?_
                            refine JO.pur rfl rfl rfl (Pur.pickF rfl rfl) ?_
                            refine JO.pur rfl rfl rfl (Pur.assign rfl) ?_
                            refine JO.nil ?_
                            refine J.condF rfl rfl ?_
                            refine J.skip rfl ?_
                            refine J.inBlock ?_
                            refine J.inBlock ?_
                            refine J.region rfl ?_
                            refine JO.pur rfl rfl rfl (Pur.move rfl) ?_
                            refine JO.pur rfl rfl rfl (Pur.add rfl rfl (wr64 (by omega))) ?_
                            refine JO.pur rfl rfl rfl (Pur.assign rfl) ?_
                            refine JO.nil ?_
                            exact J.weaken (.cons rfl (congrArg (Value.int .i64) (by first | rfl | (dsimp only; omega))) (.cons rfl rfl (.cons rfl rfl (.cons rfl rfl (.cons rfl rfl (.cons rfl rfl (.cons rfl rfl .nil))))))) (by first | exact fun _ h => h | exact SubC.out | (dsimp only; exact SubC.out)) (ihy (y + 1) (by omega) (by omega))
                  · try simp only [decide_eq_true_eq, decide_eq_false_iff_not, Bool.not_eq_true', Bool.not_eq_false', Bool.and_eq_true, Bool.or_eq_true, Bool.and_eq_false_iff, Bool.or_eq_false_iff, Option.isNone_some, Option.isSome_some, Option.isNone_none, Option.isSome_none, Int.not_lt, Int.not_le, beq_iff_eq, beq_eq_false_iff_ne, bne_iff_ne, ne_eq, Bool.not_not, Decidable.not_not] at h178
                    first
                    | (exfalso; revert h178; first | (rw [h140]; decide) | (rw [h155]; decide) | (rw [h166]; decide))
                    | refine JO.no rfl rfl rfl ?_
                      refine JO.no rfl rfl rfl ?_
                      refine JO.no rfl rfl rfl ?_
                      refine JO.pur rfl rfl rfl (Pur.pickF rfl rfl) ?_
                      refine JO.pur rfl rfl rfl (Pur.move rfl) ?_
                      refine JO.no rfl rfl rfl ?_
                      refine JO.no rfl rfl rfl ?_
                      refine JO.no rfl rfl rfl ?_
                      refine JO.no rfl rfl rfl ?_
                      refine JO.no rfl rfl rfl ?_
                      refine JO.no rfl rfl rfl ?_
                      refine JO.no rfl rfl rfl ?_
                      refine JO.pur rfl rfl rfl (Pur.pickF rfl rfl) ?_
                      refine JO.pur rfl rfl rfl (Pur.assign rfl) ?_
                      refine JO.nil ?_
                      refine J.condF rfl rfl ?_
                      refine J.seq rfl ?_
                      refine J.region rfl ?_
                      refine JO.pur rfl rfl rfl (Pur.move rfl) ?_
                      refine JO.pur rfl rfl rfl (Pur.eqlT rfl rfl) ?_
                      refine JO.pur rfl rfl rfl (Pur.move rfl) ?_
                      refine JO.splitB 195 rfl (fun h195 => ?_) (fun h195 => ?_)
                      · try simp only [decide_eq_true_eq, decide_eq_false_iff_not, Bool.not_eq_true', Bool.not_eq_false', Bool.and_eq_true, Bool.or_eq_true, Bool.and_eq_false_iff, Bool.or_eq_false_iff, Option.isNone_some, Option.isSome_some, Option.isNone_none, Option.isSome_none, Int.not_lt, Int.not_le, beq_iff_eq, beq_eq_false_iff_ne, bne_iff_ne, ne_eq, Bool.not_not, Decidable.not_not] at h195
                        first
                        | first | exact absurd h195 h178 | exact absurd h178 h195
                        | refine JO.pur rfl rfl rfl (Pur.move rfl) ?_
                          refine JO.pur rfl rfl rfl (Pur.move rfl) ?_
                          refine JO.pur rfl rfl rfl (Pur.neqI rfl rfl) ?_
                          refine JO.pur rfl rfl rfl (Pur.pickT rfl rfl) ?_
                          refine JO.pur rfl rfl rfl (Pur.move rfl) ?_
                          refine JO.splitB 200 rfl (fun h200 => ?_) (fun h200 => ?_)
                          · try simp only [decide_eq_true_eq, decide_eq_false_iff_not, Bool.not_eq_true', Bool.not_eq_false', Bool.and_eq_true, Bool.or_eq_true, Bool.and_eq_false_iff, Bool.or_eq_false_iff, Option.isNone_some, Option.isSome_some, Option.isNone_none, Option.isSome_none, Int.not_lt, Int.not_le, beq_iff_eq, beq_eq_false_iff_ne, bne_iff_ne, ne_eq, Bool.not_not, Decidable.not_not] at h200
                            first
                            | first | exact absurd h183 h200 | exact absurd h200 h183
                            | refine JO.pur rfl rfl rfl (Pur.move rfl) ?_
                              refine JO.pur rfl rfl rfl (Pur.neqI rfl rfl) ?_
                              refine JO.pur rfl rfl rfl (Pur.pickT rfl rfl) ?_
                              refine JO.pur rfl rfl rfl (Pur.assign rfl) ?_
                              refine JO.nil ?_
                              refine J.setv (u' := .bool false) 192 rfl (congrArg Value.bool (decide_eq_false (fun h => h (by rw [resT_red2 h195 h200])))) ?_
                              refine J.condF rfl rfl ?_
                              refine J.skip rfl ?_
                              refine J.inBlock ?_
                              refine J.inBlock ?_
                              refine J.region rfl ?_
                              refine JO.pur rfl rfl rfl (Pur.move rfl) ?_
                              refine JO.pur rfl rfl rfl (Pur.add rfl rfl (wr64 (by omega))) ?_
                              refine JO.pur rfl rfl rfl (Pur.assign rfl) ?_
                              refine JO.nil ?_
                              exact J.weaken (.cons rfl (congrArg (Value.int .i64) (by first | rfl | (dsimp only; omega))) (.cons rfl rfl (.cons rfl rfl (.cons rfl rfl (.cons rfl rfl (.cons rfl rfl (.cons rfl rfl .nil))))))) (by first | exact fun _ h => h | exact SubC.out | (dsimp only; exact SubC.out)) (ihy (y + 1) (by omega) (by omega))
                          · try simp only [decide_eq_true_eq, decide_eq_false_iff_not, Bool.not_eq_true', Bool.not_eq_false', Bool.and_eq_true, Bool.or_eq_true, Bool.and_eq_false_iff, Bool.or_eq_false_iff, Option.isNone_some, Option.isSome_some, Option.isNone_none, Option.isSome_none, Int.not_lt, Int.not_le, beq_iff_eq, beq_eq_false_iff_ne, bne_iff_ne, ne_eq, Bool.not_not, Decidable.not_not] at h200
                            first
                            | first | exact absurd h183 h200 | exact absurd h200 h183
                            | refine JO.no rfl rfl rfl ?_
                              refine JO.no rfl rfl rfl ?_
                              refine JO.pur rfl rfl rfl (Pur.pickF rfl rfl) ?_
                              refine JO.pur rfl rfl rfl (Pur.assign rfl) ?_
                              refine JO.nil ?_
                              refine J.condF rfl rfl ?_
                              refine J.skip rfl ?_
                              refine J.inBlock ?_
                              refine J.inBlock ?_
                              refine J.region rfl ?_
                              refine JO.pur rfl rfl rfl (Pur.move rfl) ?_
                              refine JO.pur rfl rfl rfl (Pur.add rfl rfl (wr64 (by omega))) ?_
                              refine JO.pur rfl rfl rfl (Pur.assign rfl) ?_
                              refine JO.nil ?_
                              exact J.weaken (.cons rfl (congrArg (Value.int .i64) (by first | rfl | (dsimp only; omega))) (.cons rfl rfl (.cons rfl rfl (.cons rfl rfl (.cons rfl rfl (.cons rfl rfl (.cons rfl rfl .nil))))))) (by first | exact fun _ h => h | exact SubC.out | (dsimp only; exact SubC.out)) (ihy (y + 1) (by omega) (by omega))
                      · try simp only [decide_eq_true_eq, decide_eq_false_iff_not, Bool.not_eq_true', Bool.not_eq_false', Bool.and_eq_true, Bool.or_eq_true, Bool.and_eq_false_iff, Bool.or_eq_false_iff, Option.isNone_some, Option.isSome_some, Option.isNone_none, Option.isSome_none, Int.not_lt, Int.not_le, beq_iff_eq, beq_eq_false_iff_ne, bne_iff_ne, ne_eq, Bool.not_not, Decidable.not_not] at h195
                        first
                        | first | exact absurd h195 h178 | exact absurd h178 h195
                        | refine JO.no rfl rfl rfl ?_
                          refine JO.no rfl rfl rfl ?_
                          refine JO.no rfl rfl rfl ?_
                          refine JO.pur rfl rfl rfl (Pur.pickF rfl rfl) ?_
                          refine JO.pur rfl rfl rfl (Pur.move rfl) ?_
                          refine JO.no rfl rfl rfl ?_
                          refine JO.no rfl rfl rfl ?_
                          refine JO.pur rfl rfl rfl (Pur.pickF rfl rfl) ?_
                          refine JO.pur rfl rfl rfl (Pur.assign rfl) ?_
                          refine JO.nil ?_
                          refine J.condF rfl rfl ?_
                          refine J.skip rfl ?_
                          refine J.inBlock ?_
                          refine J.inBlock ?_
                          refine J.region rfl ?_
                          refine JO.pur rfl rfl rfl (Pur.move rfl) ?_
                          refine JO.pur rfl rfl rfl (Pur.add rfl rfl (wr64 (by omega))) ?_
                          refine JO.pur rfl rfl rfl (Pur.assign rfl) ?_
                          refine JO.nil ?_
                          exact J.weaken (.cons rfl (congrArg (Value.int .i64) (by first | rfl | (dsimp only; omega))) (.cons rfl rfl (.cons rfl rfl (.cons rfl rfl (.cons rfl rfl (.cons rfl rfl (.cons rfl rfl .nil))))))) (by first | exact fun _ h => h | exact SubC.out | (dsimp only; exact SubC.out)) (ihy (y + 1) (by omega) (by omega))
          · try simp only [decide_eq_true_eq, decide_eq_false_iff_not, Bool.not_eq_true', Bool.not_eq_false', Bool.and_eq_true, Bool.or_eq_true, Bool.and_eq_false_iff, Bool.or_eq_false_iff, Option.isNone_some, Option.isSome_some, Option.isNone_none, Option.isSome_none, Int.not_lt, Int.not_le, beq_iff_eq, beq_eq_false_iff_ne, bne_iff_ne, ne_eq, Bool.not_not, Decidable.not_not] at h155
            first
            | (exfalso; revert h155; first | (rw [h140]; decide))
            | refine JO.no rfl rfl rfl ?_
              refine JO.no rfl rfl rfl ?_
              refine JO.no rfl rfl rfl ?_
              refine JO.no rfl rfl rfl ?_
              refine JO.no rfl rfl rfl ?_
              refine JO.no rfl rfl rfl ?_
              refine JO.pur rfl rfl rfl (Pur.pickF rfl rfl) ?_
              refine JO.pur rfl rfl rfl (Pur.assign rfl) ?_
              refine JO.nil ?_
              refine J.condF rfl rfl ?_
              refine J.seq rfl ?_
              refine J.region rfl ?_
              refine JO.pur rfl rfl rfl (Pur.move rfl) ?_
              refine JO.pur rfl rfl rfl (Pur.eqlT rfl rfl) ?_
              refine JO.pur rfl rfl rfl (Pur.move rfl) ?_
              refine JO.splitB 166 rfl (fun h166 => ?_) (fun h166 => ?_)
              · try simp only [decide_eq_true_eq, decide_eq_false_iff_not, Bool.not_eq_true', Bool.not_eq_false', Bool.and_eq_true, Bool.or_eq_true, Bool.and_eq_false_iff, Bool.or_eq_false_iff, Option.isNone_some, Option.isSome_some, Option.isNone_none, Option.isSome_none, Int.not_lt, Int.not_le, beq_iff_eq, beq_eq_false_iff_ne, bne_iff_ne, ne_eq, Bool.not_not, Decidable.not_not] at h166
                first
                | (exfalso; revert h166; first | (rw [h140]; decide) | (rw [h155]; decide))
                | refine JO.pur rfl rfl rfl (Pur.move rfl) ?_
                  refine JO.pur rfl rfl rfl (Pur.move rfl) ?_
                  refine JO.pur rfl rfl rfl (Pur.neqI rfl rfl) ?_
                  refine JO.pur rfl rfl rfl (Pur.move rfl) ?_
                  refine JO.setv (u' := .bool false) 170 rfl (congrArg Value.bool (decide_eq_false (fun h => h (by rw [resT_all h166])))) ?_
                  refine JO.pur rfl rfl rfl (Pur.move rfl) ?_
                  refine JO.pur rfl rfl rfl (Pur.neqI rfl rfl) ?_
                  refine JO.pur rfl rfl rfl (Pur.pickF rfl rfl) ?_
                  refine JO.pur rfl rfl rfl (Pur.pickT rfl rfl) ?_
                  refine JO.pur rfl rfl rfl (Pur.assign rfl) ?_
                  refine JO.nil ?_
                  refine J.setv (u' := .bool false) 163 rfl (congrArg Value.bool (decide_eq_false (fun h => h (by rw [resT_all h166])))) ?_
                  refine J.condF rfl rfl ?_
                  refine J.seq rfl ?_
                  refine J.region rfl ?_
                  refine JO.pur rfl rfl rfl (Pur.move rfl) ?_
                  refine JO.pur rfl rfl rfl (Pur.eqlT rfl rfl) ?_
                  refine JO.pur rfl rfl rfl (Pur.move rfl) ?_
                  refine JO.splitB 178 rfl (fun h178 => ?_) (fun h178 => ?_)
                  · try simp only [decide_eq_true_eq, decide_eq_false_iff_not, Bool.not_eq_true', Bool.not_eq_false', Bool.and_eq_true, Bool.or_eq_true, Bool.and_eq_false_iff, Bool.or_eq_false_iff, Option.isNone_some, Option.isSome_some, Option.isNone_none, Option.isSome_none, Int.not_lt, Int.not_le, beq_iff_eq, beq_eq_false_iff_ne, bne_iff_ne, ne_eq, Bool.not_not, Decidable.not_not] at h178
                    first
                    | (exfalso; revert h178; first | (rw [h140]; decide) | (rw [h155]; decide) | (rw [h166]; decide))
                    | refine JO.pur rfl rfl rfl (Pur.move rfl) ?_
                      refine JO.pur rfl rfl rfl (Pur.move rfl) ?_
                      refine JO.pur rfl rfl rfl (Pur.eqlI rfl rfl) ?_
                      refine JO.pur rfl rfl rfl (Pur.pickT rfl rfl) ?_
                      refine JO.pur rfl rfl rfl (Pur.move rfl) ?_
                      refine JO.splitB 183 rfl (fun h183 => ?_) (fun h183 => ?_)
                      · try simp only [decide_eq_true_eq, decide_eq_false_iff_not, Bool.not_eq_true', Bool.not_eq_false', Bool.and_eq_true, Bool.or_eq_true, Bool.and_eq_false_iff, Bool.or_eq_false_iff, Option.isNone_some, Option.isSome_some, Option.isNone_none, Option.isSome_none, Int.not_lt, Int.not_le, beq_iff_eq, beq_eq_false_iff_ne, bne_iff_ne, ne_eq, Bool.not_not, Decidable.not_not] at h183
                        refine JO.pur rfl rfl rfl (Pur.move rfl) ?_
                        refine JO.pur rfl rfl rfl (Pur.move rfl) ?_
                        refine JO.pur rfl rfl rfl (Pur.neqI rfl rfl) ?_
                        refine JO.pur rfl rfl rfl (Pur.move rfl) ?_
                        refine JO.setv (u' := .bool false) 187 rfl (congrArg Value.bool (decide_eq_false (fun h => h (by rw [resT_red1 h178 h183])))) ?_
                        refine JO.pur rfl rfl rfl (Pur.move rfl) ?_
                        refine JO.pur rfl rfl rfl (Pur.neqI rfl rfl) ?_
                        refine JO.pur rfl rfl rfl (Pur.pickF rfl rfl) ?_
                        refine JO.pur rfl rfl rfl (Pur.pickT rfl rfl) ?_
                        refine JO.pur rfl rfl rfl (Pur.assign rfl) ?_
                        refine JO.nil ?_
                        refine J.setv (u' := .bool false) 175 rfl (congrArg Value.bool (decide_eq_false (fun h => h (by rw [resT_red1 h178 h183])))) ?_
                        refine J.condF rfl rfl ?_
                        refine J.seq rfl ?_
                        refine J.region rfl ?_
                        refine JO.pur rfl rfl rfl (Pur.move rfl) ?_
                        refine JO.pur rfl rfl rfl (Pur.eqlT rfl rfl) ?_
                        refine JO.pur rfl rfl rfl (Pur.move rfl) ?_
                        refine JO.splitB 195 rfl (fun h195 => ?_) (fun h195 => ?_)
                        · try simp only [decide_eq_true_eq, decide_eq_false_iff_not, Bool.not_eq_true', Bool.not_eq_false', Bool.and_eq_true, Bool.or_eq_true, Bool.and_eq_false_iff, Bool.or_eq_false_iff, Option.isNone_some, Option.isSome_some, Option.isNone_none, Option.isSome_none, Int.not_lt, Int.not_le, beq_iff_eq, beq_eq_false_iff_ne, bne_iff_ne, ne_eq, Bool.not_not, Decidable.not_not] at h195
                          first
                          | first | exact absurd h195 h178 | exact absurd h178 h195
                          | refine JO.pur rfl rfl rfl (Pur.move rfl) ?_
                            refine JO.pur rfl rfl rfl (Pur.move rfl) ?_
                            refine JO.pur rfl rfl rfl (Pur.neqI rfl rfl) ?_
                            refine JO.pur rfl rfl rfl (Pur.pickT rfl rfl) ?_
                            refine JO.pur rfl rfl rfl (Pur.move rfl) ?_
                            refine JO.splitB 200 rfl (fun h200 => ?_) (fun h200 => ?_)
                            · try simp only [decide_eq_true_eq, decide_eq_false_iff_not, Bool.not_eq_true', Bool.not_eq_false', Bool.and_eq_true, Bool.or_eq_true, Bool.and_eq_false_iff, Bool.or_eq_false_iff, Option.isNone_some, Option.isSome_some, Option.isNone_none, Option.isSome_none, Int.not_lt, Int.not_le, beq_iff_eq, beq_eq_false_iff_ne, bne_iff_ne, ne_eq, Bool.not_not, Decidable.not_not] at h200
                              first
                              | first | exact absurd h183 h200 | exact absurd h200 h183
                              | refine JO.pur rfl rfl rfl (Pur.move rfl) ?_
                                refine JO.pur rfl rfl rfl (Pur.neqI rfl rfl) ?_
                                refine JO.pur rfl rfl rfl (Pur.pickT rfl rfl) ?_
                                refine JO.pur rfl rfl rfl (Pur.assign rfl) ?_
                                refine JO.nil ?_
                                refine J.setv (u' := .bool false) 192 rfl (congrArg Value.bool (decide_eq_false (fun h => h (by rw [resT_red2 h195 h200])))) ?_
                                refine J.condF rfl rfl ?_
                                refine J.skip rfl ?_
                                refine J.inBlock ?_
                                refine J.inBlock ?_
                                refine J.region rfl ?_
                                refine JO.pur rfl rfl rfl (Pur.move rfl) ?_
                                refine JO.pur rfl rfl rfl (Pur.add rfl rfl (wr64 (by omega))) ?_
                                refine JO.pur rfl rfl rfl (Pur.assign rfl) ?_
                                refine JO.nil ?_
                                exact J.weaken (.cons rfl (congrArg (Value.int .i64) (by first | rfl | (dsimp only; omega))) (.cons rfl rfl (.cons rfl rfl (.cons rfl rfl (.cons rfl rfl (.cons rfl rfl (.cons rfl rfl .nil))))))) (by first | exact fun _ h => h | exact SubC.out | (dsimp only; exact SubC.out)) (ihy (y + 1) (by omega) (by omega))
                            · try simp only [decide_eq_true_eq, decide_eq_false_iff_not, Bool.not_eq_true', Bool.not_eq_false', Bool.and_eq_true, Bool.or_eq_true, Bool.and_eq_false_iff, Bool.or_eq_false_iff, Option.isNone_some, Option.isSome_some, Option.isNone_none, Option.isSome_none, Int.not_lt, Int.not_le, beq_iff_eq, beq_eq_false_iff_ne, bne_iff_ne, ne_eq, Bool.not_not, Decidable.not_not] at h200
                              first
                              | first | exact absurd h183 h200 | exact absurd h200 h183
                              | refine JO.no rfl rfl rfl ?_
                                refine JO.no rfl rfl rfl ?_
                                refine JO.pur rfl rfl rfl (Pur.pickF rfl rfl) ?_
                                refine JO.pur rfl rfl rfl (Pur.assign rfl) ?_
                                refine JO.nil ?_
                                refine J.condF rfl rfl ?_
                                refine J.skip rfl ?_
                                refine J.inBlock ?_
                                refine J.inBlock ?_
                                refine J.region rfl ?_
                                refine JO.pur rfl rfl rfl (Pur.move rfl) ?_
                                refine JO.pur rfl rfl rfl (Pur.add rfl rfl (wr64 (by omega))) ?_
                                refine JO.pur rfl rfl rfl (Pur.assign rfl) ?_
                                refine JO.nil ?_
                                exact J.weaken (.cons rfl (congrArg (Value.int .i64) (by first | rfl | (dsimp only; omega))) (.cons rfl rfl (.cons rfl rfl (.cons rfl rfl (.cons rfl rfl (.cons rfl rfl (.cons rfl rfl .nil))))))) (by first | exact fun _ h => h | exact SubC.out | (dsimp only; exact SubC.out)) (ihy (y + 1) (by omega) (by omega))
                        · try simp only [decide_eq_true_eq, decide_eq_false_iff_not, Bool.not_eq_true', Bool.not_eq_false', Bool.and_eq_true, Bool.or_eq_true, Bool.and_eq_false_iff, Bool.or_eq_false_iff, Option.isNone_some, Option.isSome_some, Option.isNone_none, Option.isSome_none, Int.not_lt, Int.not_le, beq_iff_eq, beq_eq_false_iff_ne, bne_iff_ne, ne_eq, Bool.not_not, Decidable.not_not] at h195
                          first
                          | first | exact absurd h195 h178 | exact absurd h178 h195
                          | refine JO.no rfl rfl rfl ?_
                            refine JO.no rfl rfl rfl ?_
                            refine JO.no rfl rfl rfl ?_
                            refine JO.pur rfl rfl rfl (Pur.pickF rfl rfl) ?_
                            refine JO.pur rfl rfl rfl (Pur.move rfl) ?_
                            refine JO.no rfl rfl rfl ?_
                            refine JO.no rfl rfl rfl ?_
                            refine JO.pur rfl rfl rfl (Pur.pickF rfl rfl) ?_
                            refine JO.pur rfl rfl rfl (Pur.assign rfl) ?_
                            refine JO.nil ?_
                            refine J.condF rfl rfl ?_
                            refine J.skip rfl ?_
                            refine J.inBlock ?_
                            refine J.inBlock ?_
                            refine J.region rfl ?_
                            refine JO.pur rfl rfl rfl (Pur.move rfl) ?_
                            refine JO.pur rfl rfl rfl (Pur.add rfl rfl (wr64 (by omega))) ?_
                            refine JO.pur rfl rfl rfl (Pur.assign rfl) ?_
                            refine JO.nil ?_
                            exact J.weaken (.cons rfl (congrArg (Value.int .i64) (by first | rfl | (dsimp only; omega))) (.cons rfl rfl (.cons rfl rfl (.cons rfl rfl (.cons rfl rfl (.cons rfl rfl (.cons rfl rfl .nil))))))) (by first | exact fun _ h => h | exact SubC.out | (dsimp only; exact SubC.out)) (ihy (y + 1) (by omega) (by omega))
                      · try simp only [decide_eq_true_eq, decide_eq_false_iff_not, Bool.not_eq_true', Bool.not_eq_false', Bool.and_eq_true, Bool.or_eq_true, Bool.and_eq_false_iff, Bool.or_eq_false_iff, Option.isNone_some, Option.isSome_some, Option.isNone_none, Option.isSome_none, Int.not_lt, Int.not_le, beq_iff_eq, beq_eq_false_iff_ne, bne_iff_ne, ne_eq, Bool.not_not, Decidable.not_not] at h183
                        refine JO.no rfl rfl rfl ?_
                        refine JO.no rfl rfl rfl ?_
                        refine JO.no rfl rfl rfl ?_
                        refine JO.no rfl rfl rfl ?_
                        refine JO.no rfl rfl rfl ?_
                        refine JO.no rfl rfl rfl ?_
                        refine JO.no rfl rfl rfl ?_
                        refine JO.pur rfl rfl rfl (Pur.pickF rfl rfl) ?_
                        refine JO.pur rfl rfl rfl (Pur.assign rfl) ?_
                        refine JO.nil ?_
                        refine J.condF rfl rfl ?_
                        refine J.seq rfl ?_
                        refine J.region rfl ?_
                        refine JO.pur rfl rfl rfl (Pur.move rfl) ?_
                        refine JO.pur rfl rfl rfl (Pur.eqlT rfl rfl) ?_
                        refine JO.pur rfl rfl rfl (Pur.move rfl) ?_
                        refine JO.splitB 195 rfl (fun h195 => ?_) (fun h195 => ?_)
                        · try simp only [decide_eq_true_eq, decide_eq_false_iff_not, Bool.not_eq_true', Bool.not_eq_false', Bool.and_eq_true, Bool.or_eq_true, Bool.and_eq_false_iff, Bool.or_eq_false_iff, Option.isNone_some, Option.isSome_some, Option.isNone_none, Option.isSome_none, Int.not_lt, Int.not_le, beq_iff_eq, beq_eq_false_iff_ne, bne_iff_ne, ne_eq, Bool.not_not, Decidable.not_not] at h195
                          first
                          | first | exact absurd h195 h178 | exact absurd h178 h195
                          | refine JO.pur rfl rfl rfl (Pur.move rfl) ?_
                            refine JO.pur rfl rfl rfl (Pur.move rfl) ?_
                            refine JO.pur rfl rfl rfl (Pur.neqI rfl rfl) ?_
                            refine JO.pur rfl rfl rfl (Pur.pickT rfl rfl) ?_
                            refine JO.pur rfl rfl rfl (Pur.move rfl) ?_
                            refine JO.splitB 200 rfl (fun h200 => ?_) (fun h200 => ?_)
                            · try simp only [decide_eq_true_eq, decide_eq_false_iff_not, Bool.not_eq_true', Bool.not_eq_false', Bool.and_eq_true, Bool.or_eq_true, Bool.and_eq_false_iff, Bool.or_eq_false_iff, Option.isNone_some, Option.isSome_some, Option.isNone_none, Option.isSome_none, Int.not_lt, Int.not_le, beq_iff_eq, beq_eq_false_iff_ne, bne_iff_ne, ne_eq, Bool.not_not, Decidable.not_not] at h200
                              first
                              | first | exact absurd h183 h200 | exact absurd h200 h183
                              | refine JO.pur rfl rfl rfl (Pur.move rfl) ?_
                                refine JO.pur rfl rfl rfl (Pur.neqI rfl rfl) ?_
                                refine JO.pur rfl rfl rfl (Pur.pickT rfl rfl) ?_
                                refine JO.pur rfl rfl rfl (Pur.assign rfl) ?_
                                refine JO.nil ?_
                                refine J.setv (u' := .bool false) 192 rfl (congrArg Value.bool (decide_eq_false (fun h => h (by rw [resT_red2 h195 h200])))) ?_
                                refine J.condF rfl rfl ?_
                                refine J.skip rfl ?_
                                refine J.inBlock ?_
                                refine J.inBlock ?_
                                refine J.region rfl ?_
                                refine JO.pur rfl rfl rfl (Pur.move rfl) ?_
                                refine JO.pur rfl rfl rfl (Pur.add rfl rfl (wr64 (by omega))) ?_
                                refine JO.pur rfl rfl rfl (Pur.assign rfl) ?_
                                refine JO.nil ?_
                                exact J.weaken (.cons rfl (congrArg (Value.int .i64) (by first | rfl | (dsimp only; omega))) (.cons rfl rfl (.cons rfl rfl (.cons rfl rfl (.cons rfl rfl (.cons rfl rfl (.cons rfl rfl .nil))))))) (by first | exact fun _ h => h | exact SubC.out | (dsimp only; exact SubC.out)) (ihy (y + 1) (by omega) (by omega))
                            · try simp only [decide_eq_true_eq, decide_eq_false_iff_not, Bool.not_eq_true', Bool.not_eq_false', Bool.and_eq_true, Bool.or_eq_true, Bool.and_eq_false_iff, Bool.or_eq_false_iff, Option.isNone_some, Option.isSome_some, Option.isNone_none, Option.isSome_none, Int.not_lt, Int.not_le, beq_iff_eq, beq_eq_false_iff_ne, bne_iff_ne, ne_eq, Bool.not_not, Decidable.not_not] at h200
                              first
                              | first | exact absurd h183 h200 | exact absurd h200 h183
                              | refine JO.no rfl rfl rfl ?_
                                refine JO.no rfl rfl rfl ?_
                                refine JO.pur rfl rfl rfl (Pur.pickF rfl rfl) ?_
                                refine JO.pur rfl rfl rfl (Pur.assign rfl) ?_
                                refine JO.nil ?_
                                refine J.condF rfl rfl ?_
                                refine J.skip rfl ?_
                                refine J.inBlock ?_
                                refine J.inBlock ?_
                                refine J.region rfl ?_
                                refine JO.pur rfl rfl rfl (Pur.move rfl) ?_
                                refine JO.pur rfl rfl rfl (Pur.add rfl rfl (wr64 (by omega))) ?_
                                refine JO.pur rfl rfl rfl (Pur.assign rfl) ?_
                                refine JO.nil ?_
                                exact J.weaken (.cons rfl (congrArg (Value.int .i64) (by first | rfl | (dsimp only; omega))) (.cons rfl rfl (.cons rfl rfl (.cons rfl rfl (.cons rfl rfl (.cons rfl rfl (.cons rfl rfl .nil))))))) (by first | exact fun _ h => h | exact SubC.out | (dsimp only; exact SubC.out)) (ihy (y + 1) (by omega) (by omega))
                        · try simp only [decide_eq_true_eq, decide_eq_false_iff_not, Bool.not_eq_true', Bool.not_eq_false', Bool.and_eq_true, Bool.or_eq_true, Bool.and_eq_false_iff, Bool.or_eq_false_iff, Option.isNone_some, Option.isSome_some, Option.isNone_none, Option.isSome_none, Int.not_lt, Int.not_le, beq_iff_eq, beq_eq_false_iff_ne, bne_iff_ne, ne_eq, Bool.not_not, Decidable.not_not] at h195
                          first
                          | first | exact absurd h195 h178 | exact absurd h178 h195
                          | refine JO.no rfl rfl rfl ?_
                            refine JO.no rfl rfl rfl ?_
                            refine JO.no rfl rfl rfl ?_
                            refine JO.pur rfl rfl rfl (Pur.pickF rfl rfl) ?_
                            refine JO.pur rfl rfl rfl (Pur.move rfl) ?_
                            refine JO.no rfl rfl rfl ?_
                            refine JO.no rfl rfl rfl ?_
                            refine JO.pur rfl rfl rfl (Pur.pickF rfl rfl) ?_
                            refine JO.pur rfl rfl rfl (Pur.assign rfl) ?_
                            refine JO.nil ?_
                            refine J.condF rfl rfl ?_
                            refine J.skip rfl ?_
                            refine J.inBlock ?_
                            refine J.inBlock ?_
                            refine J.region rfl ?_
                            refine JO.pur rfl rfl rfl (Pur.move rfl) ?_
                            refine JO.pur rfl rfl rfl (Pur.add rfl rfl (wr64 (by omega))) ?_
                            refine JO.pur rfl rfl rfl (Pur.assign rfl) ?_
                            refine JO.nil ?_
                            exact J.weaken (.cons rfl (congrArg (Value.int .i64) (by first | rfl | (dsimp only; omega))) (.cons rfl rfl (.cons rfl rfl (.cons rfl rfl (.cons rfl rfl (.cons rfl rfl (.cons rfl rfl .nil))))))) (by first | exact fun _ h => h | exact SubC.out | (dsimp only; exact SubC.out)) (ihy (y + 1) (by omega) (by omega))
                  · try simp only [decide_eq_true_eq, decide_eq_false_iff_not, Bool.not_eq_true', Bool.not_eq_false', Bool.and_eq_true, Bool.or_eq_true, Bool.and_eq_false_iff, Bool.or_eq_false_iff, Option.isNone_some, Option.isSome_some, Option.isNone_none, Option.isSome_none, Int.not_lt, Int.not_le, beq_iff_eq, beq_eq_false_iff_ne, bne_iff_ne, ne_eq, Bool.not_not, Decidable.not_not] at h178
                    first
                    | (exfalso; revert h178; first | (rw [h140]; decide) | (rw [h155]; decide) | (rw [h166]; decide))
                    | refine JO.no rfl rfl rfl ?_
                      refine JO.no rfl rfl rfl ?_
                      refine JO.no rfl rfl rfl ?_
                      refine JO.pur rfl rfl rfl (Pur.pickF rfl rfl) ?_
                      refine JO.pur rfl rfl rfl (Pur.move rfl) ?_
                      refine JO.no rfl rfl rfl ?_
                      refine JO.no rfl rfl rfl ?_
                      refine JO.no rfl rfl rfl ?_
                      refine JO.no rfl rfl rfl ?_
                      refine JO.no rfl rfl rfl ?_
                      refine JO.no rfl rfl rfl ?_
                      refine JO.no rfl rfl rfl ?_
                      refine JO.pur rfl rfl rfl (Pur.pickF rfl rfl) ?_
                      refine JO.pur rfl rfl rfl (Pur.assign rfl) ?_
                      refine JO.nil ?_
                      refine J.condF rfl rfl ?_
                      refine J.seq rfl ?_
                      refine J.region rfl ?_
                      refine JO.pur rfl rfl rfl (Pur.move rfl) ?_
                      refine JO.pur rfl rfl rfl (Pur.eqlT rfl rfl) ?_
                      refine JO.pur rfl rfl rfl (Pur.move rfl) ?_
                      refine JO.splitB 195 rfl (fun h195 => ?_) (fun h195 => ?_)
                      · try simp only [decide_eq_true_eq, decide_eq_false_iff_not, Bool.not_eq_true', Bool.not_eq_false', Bool.and_eq_true, Bool.or_eq_true, Bool.and_eq_false_iff, Bool.or_eq_false_iff, Option.isNone_some, Option.isSome_some, Option.isNone_none, Option.isSome_none, Int.not_lt, Int.not_le, beq_iff_eq, beq_eq_false_iff_ne, bne_iff_ne, ne_eq, Bool.not_not, Decidable.not_not] at h195
                        first
                        | first | exact absurd h195 h178 | exact absurd h178 h195
                        | refine JO.pur rfl rfl rfl (Pur.move rfl) ?_
                          refine JO.pur rfl rfl rfl (Pur.move rfl) ?_
                          refine JO.pur rfl rfl rfl (Pur.neqI rfl rfl) ?_
                          refine JO.pur rfl rfl rfl (Pur.pickT rfl rfl) ?_
                          refine JO.pur rfl rfl rfl (Pur.move rfl) ?_
                          refine JO.splitB 200 rfl (fun h200 => ?_) (fun h200 => ?_)
                          · try simp only [decide_eq_true_eq, decide_eq_false_iff_not, Bool.not_eq_true', Bool.not_eq_false', Bool.and_eq_true, Bool.or_eq_true, Bool.and_eq_false_iff, Bool.or_eq_false_iff, Option.isNone_some, Option.isSome_some, Option.isNone_none, Option.isSome_none, Int.not_lt, Int.not_le, beq_iff_eq, beq_eq_false_iff_ne, bne_iff_ne, ne_eq, Bool.not_not, Decidable.not_not] at h200
                            first
                            | first | exact absurd h183 h200 | exact absurd h200 h183
                            | refine JO.pur rfl rfl rfl (Pur.move rfl) ?_
                              refine JO.pur rfl rfl rfl (Pur.neqI rfl rfl) ?_
                              refine JO.pur rfl rfl rfl (Pur.pickT rfl rfl) ?_
                              refine JO.pur rfl rfl rfl (Pur.assign rfl) ?_
                              refine JO.nil ?_
                              refine J.setv (u' := .bool false) 192 rfl (congrArg Value.bool (decide_eq_false (fun h => h (by rw [resT_red2 h195 h200])))) ?_
                              refine J.condF rfl rfl ?_
                              refine J.skip rfl ?_
                              refine J.inBlock ?_
                              refine J.inBlock ?_
                              refine J.region rfl ?_
                              refine JO.pur rfl rfl rfl (Pur.move rfl) ?_
                              refine JO.pur rfl rfl rfl (Pur.add rfl rfl (wr64 (by omega))) ?_
                              refine JO.pur rfl rfl rfl (Pur.assign rfl) ?_
                              refine JO.nil ?_
                              exact J.weaken (.cons rfl (congrArg (Value.int .i64) (by first | rfl | (dsimp only; omega))) (.cons rfl rfl (.cons rfl rfl (.cons rfl rfl (.cons rfl rfl (.cons rfl rfl (.cons rfl rfl .nil))))))) (by first | exact fun _ h => h | exact SubC.out | (dsimp only; exact SubC.out)) (ihy (y + 1) (by omega) (by omega))
                          · try simp only [decide_eq_true_eq, decide_eq_false_iff_not, Bool.not_eq_true', Bool.not_eq_false', Bool.and_eq_true, Bool.or_eq_true, Bool.and_eq_false_iff, Bool.or_eq_false_iff, Option.isNone_some, Option.isSome_some, Option.isNone_none, Option.isSome_none, Int.not_lt, Int.not_le, beq_iff_eq, beq_eq_false_iff_ne, bne_iff_ne, ne_eq, Bool.not_not, Decidable.not_not] at h200
                            first
                            | first | exact absurd h183 h200 | exact absurd h200 h183
                            | refine JO.no rfl rfl rfl ?_
                              refine JO.no rfl rfl rfl ?_
                              refine JO.pur rfl rfl rfl (Pur.pickF rfl rfl) ?_
                              refine JO.pur rfl rfl rfl (Pur.assign rfl) ?_
                              refine JO.nil ?_
                              refine J.condF rfl rfl ?_
                              refine J.skip rfl ?_
                              refine J.inBlock ?_
                              refine J.inBlock ?_
                              refine J.region rfl ?_
                              refine JO.pur rfl rfl rfl (Pur.move rfl) ?_
                              refine JO.pur rfl rfl rfl (Pur.add rfl rfl (wr64 (by omega))) ?_
                              refine JO.pur rfl rfl rfl (Pur.assign rfl) ?_
                              refine JO.nil ?_
                              exact J.weaken (.cons rfl (congrArg (Value.int .i64) (by first | rfl | (dsimp only; omega))) (.cons rfl rfl (.cons rfl rfl (.cons rfl rfl (.cons rfl rfl (.cons rfl rfl (.cons rfl rfl .nil))))))) (by first | exact fun _ h => h | exact SubC.out | (dsimp only; exact SubC.out)) (ihy (y + 1) (by omega) (by omega))
                      · try simp only [decide_eq_true_eq, decide_eq_false_iff_not, Bool.not_eq_true', Bool.not_eq_false', Bool.and_eq_true, Bool.or_eq_true, Bool.and_eq_false_iff, Bool.or_eq_false_iff, Option.isNone_some, Option.isSome_some, Option.isNone_none, Option.isSome_none, Int.not_lt, Int.not_le, beq_iff_eq, beq_eq_false_iff_ne, bne_iff_ne, ne_eq, Bool.not_not, Decidable.not_not] at h195
                        first
                        | first | exact absurd h195 h178 | exact absurd h178 h195
                        | refine JO.no rfl rfl rfl ?_
                          refine JO.no rfl rfl rfl ?_
                          refine JO.no rfl rfl rfl ?_
                          refine JO.pur rfl rfl rfl (Pur.pickF rfl rfl) ?_
                          refine JO.pur rfl rfl rfl (Pur.move rfl) ?_
                          refine JO.no rfl rfl rfl ?_
                          refine JO.no rfl rfl rfl ?_
                          refine JO.pur rfl rfl rfl (Pur.pickF rfl rfl) ?_
                          refine JO.pur rfl rfl rfl (Pur.assign rfl) ?_
                          refine JO.nil ?_
                          refine J.condF rfl rfl ?_
                          refine J.skip rfl ?_
                          refine J.inBlock ?_
                          refine J.inBlock ?_
                          refine J.region rfl ?_
                          refine JO.pur rfl rfl rfl (Pur.move rfl) ?_
                          refine JO.pur rfl rfl rfl (Pur.add rfl rfl (wr64 (by omega))) ?_
                          refine JO.pur rfl rfl rfl (Pur.assign rfl) ?_
                          refine JO.nil ?_
                          exact J.weaken (.cons rfl (congrArg (Value.int .i64) (by first | rfl | (dsimp only; omega))) (.cons rfl rfl (.cons rfl rfl (.cons rfl rfl (.cons rfl rfl (.cons rfl rfl (.cons rfl rfl .nil))))))) (by first | exact fun _ h => h | exact SubC.out | (dsimp only; exact SubC.out)) (ihy (y + 1) (by omega) (by omega))
              · try simp only [decide_eq_true_eq, decide_eq_false_iff_not, Bool.not_eq_true', Bool.not_eq_false', Bool.and_eq_true, Bool.or_eq_true, Bool.and_eq_false_iff, Bool.or_eq_false_iff, Option.isNone_some, Option.isSome_some, Option.isNone_none, Option.isSome_none, Int.not_lt, Int.not_le, beq_iff_eq, beq_eq_false_iff_ne, bne_iff_ne, ne_eq, Bool.not_not, Decidable.not_not] at h166
                first
                | (exfalso; revert h166; first | (rw [h140]; decide) | (rw [h155]; decide))
                | refine JO.no rfl rfl rfl ?_
                  refine JO.no rfl rfl rfl ?_
                  refine JO.no rfl rfl rfl ?_
                  refine JO.no rfl rfl rfl ?_
                  refine JO.no rfl rfl rfl ?_
                  refine JO.no rfl rfl rfl ?_
                  refine JO.no rfl rfl rfl ?_
                  refine JO.pur rfl rfl rfl (Pur.pickF rfl rfl) ?_
                  refine JO.pur rfl rfl rfl (Pur.assign rfl) ?_
                  refine JO.nil ?_
                  refine J.condF rfl rfl ?_
                  refine J.seq rfl ?_
                  refine J.region rfl ?_
                  refine JO.pur rfl rfl rfl (Pur.move rfl) ?_
                  refine JO.pur rfl rfl rfl (Pur.eqlT rfl rfl) ?_
                  refine JO.pur rfl rfl rfl (Pur.move rfl) ?_
                  refine JO.splitB 178 rfl (fun h178 => ?_) (fun h178 => ?_)
                  · try simp only [decide_eq_true_eq, decide_eq_false_iff_not, Bool.not_eq_true', Bool.not_eq_false', Bool.and_eq_true, Bool.or_eq_true, Bool.and_eq_false_iff, Bool.or_eq_false_iff, Option.isNone_some, Option.isSome_some, Option.isNone_none, Option.isSome_none, Int.not_lt, Int.not_le, beq_iff_eq, beq_eq_false_iff_ne, bne_iff_ne, ne_eq, Bool.not_not, Decidable.not_not] at h178
                    first
                    | (exfalso; revert h178; first | (rw [h140]; decide) | (rw [h155]; decide) | (rw [h166]; decide))
                    | refine JO.pur rfl rfl rfl (Pur.move rfl) ?_
                      refine JO.pur rfl rfl rfl (Pur.move rfl) ?_
                      refine JO.pur rfl rfl rfl (Pur.eqlI rfl rfl) ?_
                      refine JO.pur rfl rfl rfl (Pur.pickT rfl rfl) ?_
                      refine JO.pur rfl rfl rfl (Pur.move rfl) ?_
                      refine JO.splitB 183 rfl (fun h183 => ?_) (fun h183 => ?_)
                      · try simp only [decide_eq_true_eq, decide_eq_false_iff_not, Bool.not_eq_true', Bool.not_eq_false', Bool.and_eq_true, Bool.or_eq_true, Bool.and_eq_false_iff, Bool.or_eq_false_iff, Option.isNone_some, Option.isSome_some, Option.isNone_none, Option.isSome_none, Int.not_lt, Int.not_le, beq_iff_eq, beq_eq_false_iff_ne, bne_iff_ne, ne_eq, Bool.not_not, Decidable.not_not] at h183
                        refine JO.pur rfl rfl rfl (Pur.move rfl) ?_
                        refine JO.pur rfl rfl rfl (Pur.move rfl) ?_
                        refine JO.pur rfl rfl rfl (Pur.neqI rfl rfl) ?_
                        refine JO.pur rfl rfl rfl (Pur.move rfl) ?_
                        refine JO.setv (u' := .bool false) 187 rfl (congrArg Value.bool (decide_eq_false (fun h => h (by rw [resT_red1 h178 h183])))) ?_
                        refine JO.pur rfl rfl rfl (Pur.move rfl) ?_
                        refine JO.pur rfl rfl rfl (Pur.neqI rfl rfl) ?_
                        refine JO.pur rfl rfl rfl (Pur.pickF rfl rfl) ?_
                        refine JO.pur rfl rfl rfl (Pur.pickT rfl rfl) ?_
                        refine JO.pur rfl rfl rfl (Pur.assign rfl) ?_
                        refine JO.nil ?_
                        refine J.setv (u' := .bool false) 175 rfl (congrArg Value.bool (decide_eq_false (fun h => h (by rw [resT_red1 h178 h183])))) ?_
                        refine J.condF rfl rfl ?_
                        refine J.seq rfl ?_
                        refine J.region rfl ?_
                        refine JO.pur rfl rfl rfl (Pur.move rfl) ?_
                        refine JO.pur rfl rfl rfl (Pur.eqlT rfl rfl) ?_
                        refine JO.pur rfl rfl rfl (Pur.move rfl) ?_
                        refine JO.splitB 195 rfl (fun h195 => ?_) (fun h195 => ?_)
                        · try simp only [decide_eq_true_eq, decide_eq_false_iff_not, Bool.not_eq_true', Bool.not_eq_false', Bool.and_eq_true, Bool.or_eq_true, Bool.and_eq_false_iff, Bool.or_eq_false_iff, Option.isNone_some, Option.isSome_some, Option.isNone_none, Option.isSome_none, Int.not_lt, Int.not_le, beq_iff_eq, beq_eq_false_iff_ne, bne_iff_ne, ne_eq, Bool.not_not, Decidable.not_not] at h195
                          first
                          | first | exact absurd h195 h178 | exact absurd h178 h195
                          | refine JO.pur rfl rfl rfl (Pur.move rfl) ?_
                            refine JO.pur rfl rfl rfl (Pur.move rfl) ?_
                            refine JO.pur rfl rfl rfl (Pur.neqI rfl rfl) ?_
                            refine JO.pur rfl rfl rfl (Pur.pickT rfl rfl) ?_
                            refine JO.pur rfl rfl rfl (Pur.move rfl) ?_
                            refine JO.splitB 200 rfl (fun h200 => ?_) (fun h200 => ?_)
                            · try simp only [decide_eq_true_eq, decide_eq_false_iff_not, Bool.not_eq_true', Bool.not_eq_false', Bool.and_eq_true, Bool.or_eq_true, Bool.and_eq_false_iff, Bool.or_eq_false_iff, Option.isNone_some, Option.isSome_some, Option.isNone_none, Option.isSome_none, Int.not_lt, Int.not_le, beq_iff_eq, beq_eq_false_iff_ne, bne_iff_ne, ne_eq, Bool.not_not, Decidable.not_not] at h200
                              first
                              | first | exact absurd h183 h200 | exact absurd h200 h183
                              | refine JO.pur rfl rfl rfl (Pur.move rfl) ?_
                                refine JO.pur rfl rfl rfl (Pur.neqI rfl rfl) ?_
                                refine JO.pur rfl rfl rfl (Pur.pickT rfl rfl) ?_
                                refine JO.pur rfl rfl rfl (Pur.assign rfl) ?_
                                refine JO.nil ?_
                                refine J.setv (u' := .bool false) 192 rfl (congrArg Value.bool (decide_eq_false (fun h => h (by rw [resT_red2 h195 h200])))) ?_
                                refine J.condF rfl rfl ?_
                                refine J.skip rfl ?_
                                refine J.inBlock ?_
                                refine J.inBlock ?_
                                refine J.region rfl ?_
                                refine JO.pur rfl rfl rfl (Pur.move rfl) ?_
                                refine JO.pur rfl rfl rfl (Pur.add rfl rfl (wr64 (by omega))) ?_
                                refine JO.pur rfl rfl rfl (Pur.assign rfl) ?_
                                refine JO.nil ?_
                                exact J.weaken (.cons rfl (congrArg (Value.int .i64) (by first | rfl | (dsimp only; omega))) (.cons rfl rfl (.cons rfl rfl (.cons rfl rfl (.cons rfl rfl (.cons rfl rfl (.cons rfl rfl .nil))))))) (by first | exact fun _ h => h | exact SubC.out | (dsimp only; exact SubC.out)) (ihy (y + 1) (by omega) (by omega))
                            · try simp only [decide_eq_true_eq, decide_eq_false_iff_not, Bool.not_eq_true', Bool.not_eq_false', Bool.and_eq_true, Bool.or_eq_true, Bool.and_eq_false_iff, Bool.or_eq_false_iff, Option.isNone_some, Option.isSome_some, Option.isNone_none, Option.isSome_none, Int.not_lt, Int.not_le, beq_iff_eq, beq_eq_false_iff_ne, bne_iff_ne, ne_eq, Bool.not_not, Decidable.not_not] at h200
                              first
                              | first | exact absurd h183 h200 | exact absurd h200 h183
                              | refine JO.no rfl rfl rfl ?_
                                refine JO.no rfl rfl rfl ?_
                                refine JO.pur rfl rfl rfl (Pur.pickF rfl rfl) ?_
                                refine JO.pur rfl rfl rfl (Pur.assign rfl) ?_
                                refine JO.nil ?_
                                refine J.condF rfl rfl ?_
                                refine J.skip rfl ?_
                                refine J.inBlock ?_
                                refine J.inBlock ?_
                                refine J.region rfl ?_
                                refine JO.pur rfl rfl rfl (Pur.move rfl) ?_
                                refine JO.pur rfl rfl rfl (Pur.add rfl rfl (wr64 (by omega))) ?_
                                refine JO.pur rfl rfl rfl (Pur.assign rfl) ?_
                                refine JO.nil ?_
                                exact J.weaken (.cons rfl (congrArg (Value.int .i64) (by first | rfl | (dsimp only; omega))) (.cons rfl rfl (.cons rfl rfl (.cons rfl rfl (.cons rfl rfl (.cons rfl rfl (.cons rfl rfl .nil))))))) (by first | exact fun _ h => h | exact SubC.out | (dsimp only; exact SubC.out)) (ihy (y + 1) (by omega) (by omega))
                        · try simp only [decide_eq_true_eq, decide_eq_false_iff_not, Bool.not_eq_true', Bool.not_eq_false', Bool.and_eq_true, Bool.or_eq_true, Bool.and_eq_false_iff, Bool.or_eq_false_iff, Option.isNone_some, Option.isSome_some, Option.isNone_none, Option.isSome_none, Int.not_lt, Int.not_le, beq_iff_eq, beq_eq_false_iff_ne, bne_iff_ne, ne_eq, Bool.not_not, Decidable.not_not] at h195
                          first
                          | first | exact absurd h195 h178 | exact absurd h178 h195
                          | refine JO.no rfl rfl rfl ?_
                            refine JO.no rfl rfl rfl ?_
                            refine JO.no rfl rfl rfl ?_
                            refine JO.pur rfl rfl rfl (Pur.pickF rfl rfl) ?_
                            refine JO.pur rfl rfl rfl (Pur.move rfl) ?_
                            refine JO.no rfl rfl rfl ?_
                            refine JO.no rfl rfl rfl ?_
                            refine JO.pur rfl rfl rfl (Pur.pickF rfl rfl) ?_
                            refine JO.pur rfl rfl rfl (Pur.assign rfl) ?_
                            refine JO.nil ?_
                            refine J.condF rfl rfl ?_
                            refine J.skip rfl ?_
                            refine J.inBlock ?_
                            refine J.inBlock ?_
                            refine J.region rfl ?_
                            refine JO.pur rfl rfl rfl (Pur.move rfl) ?_
                            refine JO.pur rfl rfl rfl (Pur.add rfl rfl (wr64 (by omega))) ?_
                            refine JO.pur rfl rfl rfl (Pur.assign rfl) ?_
                            refine JO.nil ?_
                            exact J.weaken (.cons rfl (congrArg (Value.int .i64) (by first | rfl | (dsimp only; omega))) (.cons rfl rfl (.cons rfl rfl (.cons rfl rfl (.cons rfl rfl (.cons rfl rfl (.cons rfl rfl .nil))))))) (by first | exact fun _ h => h | exact SubC.out | (dsimp only; exact SubC.out)) (ihy (y + 1) (by omega) (by omega))
                      · try simp only [decide_eq_true_eq, decide_eq_false_iff_not, Bool.not_eq_true', Bool.not_eq_false', Bool.and_eq_true, Bool.or_eq_true, Bool.and_eq_false_iff, Bool.or_eq_false_iff, Option.isNone_some, Option.isSome_some, Option.isNone_none, Option.isSome_none, Int.not_lt, Int.not_le, beq_iff_eq, beq_eq_false_iff_ne, bne_iff_ne, ne_eq, Bool.not_not, Decidable.not_not] at h183
                        refine JO.no rfl rfl rfl ?_
                        refine JO.no rfl rfl rfl ?_
                        refine JO.no rfl rfl rfl ?_
                        refine JO.no rfl rfl rfl ?_
                        refine JO.no rfl rfl rfl ?_
                        refine JO.no rfl rfl rfl ?_
                        refine JO.no rfl rfl rfl ?_
                        refine JO.pur rfl rfl rfl (Pur.pickF rfl rfl) ?_
                        refine JO.pur rfl rfl rfl (Pur.assign rfl) ?_
                        refine JO.nil ?_
                        refine J.condF rfl rfl ?_
                        refine J.seq rfl ?_
                        refine J.region rfl ?_
                        refine JO.pur rfl rfl rfl (Pur.move rfl) ?_
                        refine JO.pur rfl rfl rfl (Pur.eqlT rfl rfl) ?_
                        refine JO.pur rfl rfl rfl (Pur.move rfl) ?_
                        refine JO.splitB 195 rfl (fun h195 => ?_) (fun h195 => ?_)
                        · try simp only [decide_eq_true_eq, decide_eq_false_iff_not, Bool.not_eq_true', Bool.not_eq_false', Bool.and_eq_true, Bool.or_eq_true, Bool.and_eq_false_iff, Bool.or_eq_false_iff, Option.isNone_some, Option.isSome_some, Option.isNone_none, Option.isSome_none, Int.not_lt, Int.not_le, beq_iff_eq, beq_eq_false_iff_ne, bne_iff_ne, ne_eq, Bool.not_not, Decidable.not_not] at h195
                          first
                          | first | exact absurd h195 h178 | exact absurd h178 h195
                          | refine JO.pur rfl rfl rfl (Pur.move rfl) ?_
                            refine JO.pur rfl rfl rfl (Pur.move rfl) ?_
                            refine JO.pur rfl rfl rfl (Pur.neqI rfl rfl) ?_
                            refine JO.pur rfl rfl rfl (Pur.pickT rfl rfl) ?_
                            refine JO.pur rfl rfl rfl (Pur.move rfl) ?_
                            refine JO.splitB 200 rfl (fun h200 => ?_) (fun h200 => ?_)
                            · try simp only [decide_eq_true_eq, decide_eq_false_iff_not, Bool.not_eq_true', Bool.not_eq_false', Bool.and_eq_true, Bool.or_eq_true, Bool.and_eq_false_iff, Bool.or_eq_false_iff, Option.isNone_some, Option.isSome_some, Option.isNone_none, Option.isSome_none, Int.not_lt, Int.not_le, beq_iff_eq, beq_eq_false_iff_ne, bne_iff_ne, ne_eq, Bool.not_not, Decidable.not_not] at h200
                              first
                              | first | exact absurd h183 h200 | exact absurd h200 h183
                              | refine JO.pur rfl rfl rfl (Pur.move rfl) ?_
                                refine JO.pur rfl rfl rfl (Pur.neqI rfl rfl) ?_
                                refine JO.pur rfl rfl rfl (Pur.pickT rfl rfl) ?_
                                refine JO.pur rfl rfl rfl (Pur.assign rfl) ?_
                                refine JO.nil ?_
                                refine J.setv (u' := .bool false) 192 rfl (congrArg Value.bool (decide_eq_false (fun h => h (by rw [resT_red2 h195 h200])))) ?_
                                refine J.condF rfl rfl ?_
                                refine J.skip rfl ?_
                                refine J.inBlock ?_
                                refine J.inBlock ?_
                                refine J.region rfl ?_
                                refine JO.pur rfl rfl rfl (Pur.move rfl) ?_
                                refine JO.pur rfl rfl rfl (Pur.add rfl rfl (wr64 (by omega))) ?_
                                refine JO.pur rfl rfl rfl (Pur.assign rfl) ?_
                                refine JO.nil ?_
                                exact J.weaken (.cons rfl (congrArg (Value.int .i64) (by first | rfl | (dsimp only; omega))) (.cons rfl rfl (.cons rfl rfl (.cons rfl rfl (.cons rfl rfl (.cons rfl rfl (.cons rfl rfl .nil))))))) (by first | exact fun _ h => h | exact SubC.out | (dsimp only; exact SubC.out)) (ihy (y + 1) (by omega) (by omega))
                            · try simp only [decide_eq_true_eq, decide_eq_false_iff_not, Bool.not_eq_true', Bool.not_eq_false', Bool.and_eq_true, Bool.or_eq_true, Bool.and_eq_false_iff, Bool.or_eq_false_iff, Option.isNone_some, Option.isSome_some, Option.isNone_none, Option.isSome_none, Int.not_lt, Int.not_le, beq_iff_eq, beq_eq_false_iff_ne, bne_iff_ne, ne_eq, Bool.not_not, Decidable.not_not] at h200
                              first
                              | first | exact absurd h183 h200 | exact absurd h200 h183
                              | refine JO.no rfl rfl rfl ?_
                                refine JO.no rfl rfl rfl ?_
                                refine JO.pur rfl rfl rfl (Pur.pickF rfl rfl) ?_
                                refine JO.pur rfl rfl rfl (Pur.assign rfl) ?_
                                refine JO.nil ?_
                                refine J.condF rfl rfl ?_
                                refine J.skip rfl ?_
                                refine J.inBlock ?_
                                refine J.inBlock ?_
                                refine J.region rfl ?_
                                refine JO.pur rfl rfl rfl (Pur.move rfl) ?_
                                refine JO.pur rfl rfl rfl (Pur.add rfl rfl (wr64 (by omega))) ?_
                                refine JO.pur rfl rfl rfl (Pur.assign rfl) ?_
                                refine JO.nil ?_
                                exact J.weaken (.cons rfl (congrArg (Value.int .i64) (by first | rfl | (dsimp only; omega))) (.cons rfl rfl (.cons rfl rfl (.cons rfl rfl (.cons rfl rfl (.cons rfl rfl (.cons rfl rfl .nil))))))) (by first | exact fun _ h => h | exact SubC.out | (dsimp only; exact SubC.out)) (ihy (y + 1) (by omega) (by omega))
                        · try simp only [decide_eq_true_eq, decide_eq_false_iff_not, Bool.not_eq_true', Bool.not_eq_false', Bool.and_eq_true, Bool.or_eq_true, Bool.and_eq_false_iff, Bool.or_eq_false_iff, Option.isNone_some, Option.isSome_some, Option.isNone_none, Option.isSome_none, Int.not_lt, Int.not_le, beq_iff_eq, beq_eq_false_iff_ne, bne_iff_ne, ne_eq, Bool.not_not, Decidable.not_not] at h195
                          first
                          | first | exact absurd h195 h178 | exact absurd h178 h195
                          | refine JO.no rfl rfl rfl ?_
                            refine JO.no rfl rfl rfl ?_
                            refine JO.no rfl rfl rfl ?_
                            refine JO.pur rfl rfl rfl (Pur.pickF rfl rfl) ?_
                            refine JO.pur rfl rfl rfl (Pur.move rfl) ?_
                            refine JO.no rfl rfl rfl ?_
                            refine JO.no rfl rfl rfl ?_
                            refine JO.pur rfl rfl rfl (Pur.pickF rfl rfl) ?_
                            refine JO.pur rfl rfl rfl (Pur.assign rfl) ?_
                            refine JO.nil ?_
                            refine J.condF rfl rfl ?_
                            refine J.skip rfl ?_
                            refine J.inBlock ?_
                            refine J.inBlock ?_
                            refine J.region rfl ?_
                            refine JO.pur rfl rfl rfl (Pur.move rfl) ?_
                            refine JO.pur rfl rfl rfl (Pur.add rfl rfl (wr64 (by omega))) ?_
                            refine JO.pur rfl rfl rfl (Pur.assign rfl) ?_
                            refine JO.nil ?_
                            exact J.weaken (.cons rfl (congrArg (Value.int .i64) (by first | rfl | (dsimp only; omega))) (.cons rfl rfl (.cons rfl rfl (.cons rfl rfl (.cons rfl rfl (.cons rfl rfl (.cons rfl rfl .nil))))))) (by first | exact fun _ h => h | exact SubC.out | (dsimp only; exact SubC.out)) (ihy (y + 1) (by omega) (by omega))
                  · try simp only [decide_eq_true_eq, decide_eq_false_iff_not, Bool.not_eq_true', Bool.not_eq_false', Bool.and_eq_true, Bool.or_eq_true, Bool.and_eq_false_iff, Bool.or_eq_false_iff, Option.isNone_some, Option.isSome_some, Option.isNone_none, Option.isSome_none, Int.not_lt, Int.not_le, beq_iff_eq, beq_eq_false_iff_ne, bne_iff_ne, ne_eq, Bool.not_not, Decidable.not_not] at h178
                    first
                    | (exfalso; revert h178; first | (rw [h140]; decide) | (rw [h155]; decide) | (rw [h166]; decide))
                    | refine JO.no rfl rfl rfl ?_
                      refine JO.no rfl rfl rfl ?_
                      refine JO.no rfl rfl rfl ?_
                      refine JO.pur rfl rfl rfl (Pur.pickF rfl rfl) ?_
                      refine JO.pur rfl rfl rfl (Pur.move rfl) ?_
                      refine JO.no rfl rfl rfl ?_
                      refine JO.no rfl rfl rfl ?_
                      refine JO.no rfl rfl rfl ?_
                      refine JO.no rfl rfl rfl ?_
                      refine JO.no rfl rfl rfl ?_
                      refine JO.no rfl rfl rfl ?_
                      refine JO.no rfl rfl rfl ?_
                      refine JO.pur rfl rfl rfl (Pur.pickF rfl rfl) ?_
                      refine JO.pur rfl rfl rfl (Pur.assign rfl) ?_
                      refine JO.nil ?_
                      refine J.condF rfl rfl ?_
                      refine J.seq rfl ?_
                      refine J.region rfl ?_
                      refine JO.pur rfl rfl rfl (Pur.move rfl) ?_
                      refine JO.pur rfl rfl rfl (Pur.eqlT rfl rfl) ?_
                      refine JO.pur rfl rfl rfl (Pur.move rfl) ?_
                      refine JO.splitB 195 rfl (fun h195 => ?_) (fun h195 => ?_)
                      · try simp only [decide_eq_true_eq, decide_eq_false_iff_not, Bool.not_eq_true', Bool.not_eq_false', Bool.and_eq_true, Bool.or_eq_true, Bool.and_eq_false_iff, Bool.or_eq_false_iff, Option.isNone_some, Option.isSome_some, Option.isNone_none, Option.isSome_none, Int.not_lt, Int.not_le, beq_iff_eq, beq_eq_false_iff_ne, bne_iff_ne, ne_eq, Bool.not_not, Decidable.not_not] at h195
                        first
                        | first | exact absurd h195 h178 | exact absurd h178 h195
                        | refine JO.pur rfl rfl rfl (Pur.move rfl) ?_
                          refine JO.pur rfl rfl rfl (Pur.move rfl) ?_
                          refine JO.pur rfl rfl rfl (Pur.neqI rfl rfl) ?_
                          refine JO.pur rfl rfl rfl (Pur.pickT rfl rfl) ?_
                          refine JO.pur rfl rfl rfl (Pur.move rfl) ?_
                          refine JO.splitB 200 rfl (fun h200 => ?_) (fun h200 => ?_)
                          · try simp only [decide_eq_true_eq, decide_eq_false_iff_not, Bool.not_eq_true', Bool.not_eq_false', Bool.and_eq_true, Bool.or_eq_true, Bool.and_eq_false_iff, Bool.or_eq_false_iff, Option.isNone_some, Option.isSome_some, Option.isNone_none, Option.isSome_none, Int.not_lt, Int.not_le, beq_iff_eq, beq_eq_false_iff_ne, bne_iff_ne, ne_eq, Bool.not_not, Decidable.not_not] at h200
                            first
                            | first | exact absurd h183 h200 | exact absurd h200 h183
                            | refine JO.pur rfl rfl rfl (Pur.move rfl) ?_
                              refine JO.pur rfl rfl rfl (Pur.neqI rfl rfl) ?_
                              refine JO.pur rfl rfl rfl (Pur.pickT rfl rfl) ?_
                              refine JO.pur rfl rfl rfl (Pur.assign rfl) ?_
                              refine JO.nil ?_
                              refine J.setv (u' := .bool false) 192 rfl (congrArg Value.bool (decide_eq_false (fun h => h (by rw [resT_red2 h195 h200])))) ?_
                              refine J.condF rfl rfl ?_
                              refine J.skip rfl ?_
                              refine J.inBlock ?_
                              refine J.inBlock ?_
                              refine J.region rfl ?_
                              refine JO.pur rfl rfl rfl (Pur.move rfl) ?_
                              refine JO.pur rfl rfl rfl (Pur.add rfl rfl (wr64 (by omega))) ?_
                              refine JO.pur rfl rfl rfl (Pur.assign rfl) ?_
                              refine JO.nil ?_
                              exact J.weaken (.cons rfl (congrArg (Value.int .i64) (by first | rfl | (dsimp only; omega))) (.cons rfl rfl (.cons rfl rfl (.cons rfl rfl (.cons rfl rfl (.cons rfl rfl (.cons rfl rfl .nil))))))) (by first | exact fun _ h => h | exact SubC.out | (dsimp only; exact SubC.out)) (ihy (y + 1) (by omega) (by omega))
                          · try simp only [decide_eq_true_eq, decide_eq_false_iff_not, Bool.not_eq_true', Bool.not_eq_false', Bool.and_eq_true, Bool.or_eq_true, Bool.and_eq_false_iff, Bool.or_eq_false_iff, Option.isNone_some, Option.isSome_some, Option.isNone_none, Option.isSome_none, Int.not_lt, Int.not_le, beq_iff_eq, beq_eq_false_iff_ne, bne_iff_ne, ne_eq, Bool.not_not, Decidable.not_not] at h200
                            first
                            | first | exact absurd h183 h200 | exact absurd h200 h183
                            | refine JO.no rfl rfl rfl ?_
                              refine JO.no rfl rfl rfl ?_
                              refine JO.pur rfl rfl rfl (Pur.pickF rfl rfl) ?_
                              refine JO.pur rfl rfl rfl (Pur.assign rfl) ?_
                              refine JO.nil ?_
                              refine J.condF rfl rfl ?_
                              refine J.skip rfl ?_
                              refine J.inBlock ?_
                              refine J.inBlock ?_
                              refine J.region rfl ?_
                              refine JO.pur rfl rfl rfl (Pur.move rfl) ?_
                              refine JO.pur rfl rfl rfl (Pur.add rfl rfl (wr64 (by omega))) ?_
                              refine JO.pur rfl rfl rfl (Pur.assign rfl) ?_
                              refine JO.nil ?_
                              exact J.weaken (.cons rfl (congrArg (Value.int .i64) (by first | rfl | (dsimp only; omega))) (.cons rfl rfl (.cons rfl rfl (.cons rfl rfl (.cons rfl rfl (.cons rfl rfl (.cons rfl rfl .nil))))))) (by first | exact fun _ h => h | exact SubC.out | (dsimp only; exact SubC.out)) (ihy (y + 1) (by omega) (by omega))
                      · try simp only [decide_eq_true_eq, decide_eq_false_iff_not, Bool.not_eq_true', Bool.not_eq_false', Bool.and_eq_true, Bool.or_eq_true, Bool.and_eq_false_iff, Bool.or_eq_false_iff, Option.isNone_some, Option.isSome_some, Option.isNone_none, Option.isSome_none, Int.not_lt, Int.not_le, beq_iff_eq, beq_eq_false_iff_ne, bne_iff_ne, ne_eq, Bool.not_not, Decidable.not_not] at h195
                        first
                        | first | exact absurd h195 h178 | exact absurd h178 h195
                        | refine JO.no rfl rfl rfl ?_
                          refine JO.no rfl rfl rfl ?_
                          refine JO.no rfl rfl rfl ?_
                          refine JO.pur rfl rfl rfl (Pur.pickF rfl rfl) ?_
                          refine JO.pur rfl rfl rfl (Pur.move rfl) ?_
                          refine JO.no rfl rfl rfl ?_
                          refine JO.no rfl rfl rfl ?_
                          refine JO.pur rfl rfl rfl (Pur.pickF rfl rfl) ?_
                          refine JO.pur rfl rfl rfl (Pur.assign rfl) ?_
                          refine JO.nil ?_
                          refine J.condF rfl rfl ?_
                          refine J.skip rfl ?_
                          refine J.inBlock ?_
                          refine J.inBlock ?_
                          refine J.region rfl ?_
                          refine JO.pur rfl rfl rfl (Pur.move rfl) ?_
                          refine JO.pur rfl rfl rfl (Pur.add rfl rfl (wr64 (by omega))) ?_
                          refine JO.pur rfl rfl rfl (Pur.assign rfl) ?_
                          refine JO.nil ?_
                          exact J.weaken (.cons rfl (congrArg (Value.int .i64) (by first | rfl | (dsimp only; omega))) (.cons rfl rfl (.cons rfl rfl (.cons rfl rfl (.cons rfl rfl (.cons rfl rfl (.cons rfl rfl .nil))))))) (by first | exact fun _ h => h | exact SubC.out | (dsimp only; exact SubC.out)) (ihy (y + 1) (by omega) (by omega))
      · try simp only [decide_eq_true_eq, decide_eq_false_iff_not, Bool.not_eq_true', Bool.not_eq_false', Bool.and_eq_true, Bool.or_eq_true, Bool.and_eq_false_iff, Bool.or_eq_false_iff, Option.isNone_some, Option.isSome_some, Option.isNone_none, Option.isSome_none, Int.not_lt, Int.not_le, beq_iff_eq, beq_eq_false_iff_ne, bne_iff_ne, ne_eq, Bool.not_not, Decidable.not_not] at h128
        refine J.condF rfl rfl ?_
        refine J.exit rfl rfl ?_
        refine J.seq rfl ?_
        refine J.region rfl ?_
        refine JO.effR rfl rfl rfl (Eff.call rfl (awake_ok)) ?_
        refine JO.pur rfl rfl rfl (Pur.assign rfl) ?_
        refine JO.nil ?_
        refine J.ret rfl rfl ?_
        refine ⟨_, _, ⟨rfl, rfl⟩, rfl, SubC.out⟩

set_option maxHeartbeats 4000000 in
theorem lawFolds_bad {L : List Asn} {va la : Option Addr} {vn vc ln lc : Nat} {k o : ByteArray} {root : Int} {vs l : List Int} [SlIn intE L va vs] [SlIn intE L la l] (hn : vn = vs.length) (hl : ln = l.length) (hg : ¬ goodN k o root vs) :
    CallS Try.prog 7 [.agg #[.string k, .string o, .int .i64 root, .slice va vn vc], .slice la ln lc].toArray L (fun v M => v = .bool true ∧ M = L) := by
  subst hn
  subst hl
  refine CallS.ent ?_
  refine CallS.enter Try.func7 rfl rfl rfl rfl rfl ?_
  refine J.seq rfl ?_
  refine J.region rfl ?_
  refine JO.eff rfl rfl rfl (Eff.box (cs := [_, _, _, _]) rfl rfl) ?_
  rintro _ _ ⟨b2, rfl, rfl⟩
  refine JO.pur rfl rfl rfl (Pur.assign rfl) ?_
  refine JO.nil ?_
  refine J.seq rfl ?_
  refine J.quiet rfl Try.mixed (by kernel_rfl) ?_
  refine JQ.pur rfl rfl rfl (Pur.fieldAddr rfl) ?_
  refine JQ.pur rfl rfl rfl (Pur.load rfl (CellIn.blk rfl)) ?_
  refine JQ.pur rfl rfl rfl (Pur.fieldAddr rfl) ?_
  refine JQ.pur rfl rfl rfl (Pur.load rfl (CellIn.blk rfl)) ?_
  refine JQ.pur rfl rfl rfl (Pur.fieldAddr rfl) ?_
  refine JQ.pur rfl rfl rfl (Pur.load rfl (CellIn.blk rfl)) ?_
  refine JQ.pur rfl rfl rfl (Pur.fieldAddr rfl) ?_
  refine JQ.pur rfl rfl rfl (Pur.load rfl (CellIn.blk rfl)) ?_
  refine JQ.pur rfl rfl rfl (Pur.assign rfl) ?_
  refine JQ.pur rfl rfl rfl (Pur.assign rfl) ?_
  refine JQ.pur rfl rfl rfl (Pur.assign rfl) ?_
  refine JQ.pur rfl rfl rfl (Pur.assign rfl) ?_
  refine JQ.nil ?_
  refine J.seq rfl ?_
  refine J.region rfl ?_
  refine JO.pur rfl rfl rfl (Pur.move rfl) ?_
  refine JO.pur rfl rfl rfl (Pur.move rfl) ?_
  refine JO.pur rfl rfl rfl (Pur.move rfl) ?_
  refine JO.pur rfl rfl rfl (Pur.move rfl) ?_
  refine JO.eff rfl rfl rfl (Eff.call rfl (newG_bad (k := k) (vs := vs) rfl hg)) ?_
  rintro _ _ ⟨rfl, rfl⟩
  refine JO.pur rfl rfl rfl (Pur.move rfl) ?_
  refine JO.pur rfl rfl rfl (Pur.extract rfl rfl) ?_
  refine JO.pur rfl rfl rfl (Pur.extract rfl rfl) ?_
  refine JO.pur rfl rfl rfl (Pur.assign rfl) ?_
  refine JO.pur rfl rfl rfl (Pur.assign rfl) ?_
  refine JO.nil ?_
  refine J.seq rfl ?_
  refine J.seq rfl ?_
  refine J.region rfl ?_
  refine JO.pur rfl rfl rfl (Pur.move rfl) ?_
  refine JO.pur rfl rfl rfl (Pur.neqI rfl rfl) ?_
  refine JO.nil ?_
  refine J.setv (u' := .bool true) 40 rfl (congrArg Value.bool (decide_eq_true (by decide))) ?_
  refine J.condT rfl rfl ?_
  refine J.seq rfl ?_
  refine J.region rfl ?_
  refine JO.pur rfl rfl rfl (Pur.move rfl) ?_
  refine JO.pur rfl rfl rfl (Pur.eqlPtrNil rfl) ?_
  refine JO.pur rfl rfl rfl (Pur.move rfl) ?_
  refine JO.setv (u' := .bool true) 43 rfl (congrArg Value.bool (rfl)) ?_
  refine JO.effR rfl rfl rfl (Eff.call rfl (awake_ok)) ?_
  refine JO.pur rfl rfl rfl (Pur.pickT rfl rfl) ?_
  refine JO.pur rfl rfl rfl (Pur.assign rfl) ?_
  refine JO.nil ?_
  refine J.ret rfl rfl ?_
  refine ⟨_, _, ⟨rfl, rfl⟩, rfl, SubC.out⟩

theorem lawFolds {L : List Asn} {va la : Option Addr} {vn vc ln lc : Nat} {k o : ByteArray} {root : Int} {vs l : List Int} [SlIn intE L va vs] [SlIn intE L la l] (hn : vn = vs.length) (hl : ln = l.length) :
    CallS Try.prog 7 [.agg #[.string k, .string o, .int .i64 root, .slice va vn vc], .slice la ln lc].toArray L (fun v M => v = .bool true ∧ M = L) :=
  (Classical.em (goodN k o root vs)).elim (fun g => lawFolds_good hn hl g) (fun g => lawFolds_bad hn hl g)
theorem len4 {α : Type} {l : List α} (h : l.length = 4) : ∃ a b c d, l = [a, b, c, d] := by
  match l, h with
  | [a, b, c, d], _ => exact ⟨a, b, c, d, rfl⟩
end Go.Proofs.Ytoikjjpleonllaa
