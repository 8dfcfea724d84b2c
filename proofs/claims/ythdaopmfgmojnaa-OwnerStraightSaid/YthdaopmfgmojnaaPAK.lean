/-
  A part of the proof of the claim that this folder bears.
-/
import Derived.Test.YthdaopmfgmojnaaPAJ
/- The text OLeaves. -/
/-!
  The ways of a program as the leaves of a tree, in the order in which they are taken.
-/
set_option linter.unusedVariables false
set_option linter.unusedSimpArgs false
namespace Go.Proofs.Ythdaopmfgmojnaa
open Go Go.KK Ow
def mt (l : List Deed) (c : List Bool) : Nat := (wayV l c).met.length
theorem wmet_le {l : List Deed} {c : List Bool} : ∀ {n : Nat}, n ≤ l.length → (wfold l c n).met.length ≤ eithers (l.take n)
  | 0, _ => by simp [wfold]
  | n + 1, h => by
    have ih := wmet_le (l := l) (c := c) (n := n) (by omega)
    rw [wfold_succ (by omega), eith_next (by omega)]
    unfold wstep
    split
    · split
      · simp; exact ih
      · show (wfold l c n).met.length ≤ _; omega
    · split
      · split <;> exact ih
      · split
        · split <;> exact ih
        · split <;> exact ih
theorem valid_ei {l : List Deed} (h : validB l = true) : eithers l ≤ 8 := by unfold validB at h; simp at h; exact h.1.2
theorem mt_le {l : List Deed} (h : validB l = true) (c : List Bool) : mt l c ≤ 8 := by
  have h1 := wmet_le (l := l) (c := c) (n := l.length) (Nat.le_refl _)
  rw [List.take_length] at h1
  exact Nat.le_trans h1 (valid_ei h)

theorem wstep_met {c : List Bool} {w : Ow.Way} {i : Nat} {d : Deed} : w.met.length ≤ (wstep c w i d).met.length := by
  unfold wstep
  split
  · split <;> simp
  · split
    · split <;> simp
    · split
      · split <;> simp
      · split <;> simp
theorem wf_agree {l : List Deed} {c d : List Bool} : ∀ {n : Nat}, (∀ j, j < (wfold l c n).met.length → c.getD j true = d.getD j true) → wfold l d n = wfold l c n
  | 0, _ => rfl
  | n + 1, h => by
    cases hl : l[n]? with
    | none =>
      simp only [wfold, hl] at h ⊢
      exact wf_agree h
    | some e =>
      have e1 : wfold l c (n + 1) = wstep c (wfold l c n) n e := by simp only [wfold, hl]
      have e2 : wfold l d (n + 1) = wstep d (wfold l d n) n e := by simp only [wfold, hl]
      rw [e1] at h ⊢
      rw [e2, wf_agree (n := n) (fun j hj => h j (Nat.lt_of_lt_of_le hj wstep_met))]
      by_cases he : e.act = sEither
      · by_cases ha : (wfold l c n).active = true
        · rw [w_ei1 he ha, w_ei1 he ha]
          rw [w_ei1 he ha] at h
          rw [h _ (by simp)]
        · have ha' : (wfold l c n).active = false := by simpa using ha
          rw [w_ei0 he ha', w_ei0 he ha']
      · unfold wstep; rw [if_neg he, if_neg he]
theorem way_agree {l : List Deed} {c d : List Bool} (h : ∀ j, j < mt l c → c.getD j true = d.getD j true) : wayV l d = wayV l c := wf_agree h
theorem mt_more {l : List Deed} {c d : List Bool} {k : Nat} (h : ∀ j, j < k → c.getD j true = d.getD j true) (hk : k < mt l c) : k < mt l d := by
  rcases Nat.lt_or_ge k (mt l d) with h1 | h1
  · exact h1
  · have h2 := way_agree (l := l) (c := d) (d := c) (fun j hj => (h j (by omega)).symm)
    unfold mt at hk h1; rw [h2] at hk; omega
theorem getD_app {c r : List Bool} {j : Nat} (h : j < c.length) (b : Bool) : (c ++ r).getD j b = c.getD j b := by
  simp only [List.getD_eq_getElem?_getD, List.getElem?_append_left h]
theorem getD_rep {c : List Bool} {k j : Nat} : (c ++ List.replicate k true).getD j true = c.getD j true := by
  simp only [List.getD_eq_getElem?_getD]
  rcases Nat.lt_or_ge j c.length with h | h
  · rw [List.getElem?_append_left h]
  · rw [List.getElem?_append_right h, List.getElem?_eq_none h, List.getElem?_replicate]
    split <;> rfl
theorem way_rep {l : List Deed} {c : List Bool} {k : Nat} : wayV l (c ++ List.replicate k true) = wayV l c := way_agree (fun j _ => getD_rep.symm)
theorem way_true {l : List Deed} {c : List Bool} : wayV l (c ++ [true]) = wayV l c := way_rep (k := 1)
theorem mt_false {l : List Deed} {c : List Bool} (h : c.length < mt l c) : c.length < mt l (c ++ [false]) := mt_more (fun j hj => (getD_app hj true).symm) h

def T (l : List Deed) : Nat → List Bool → List (List Bool)
  | 0, c => [c]
  | f + 1, c => if mt l c ≤ c.length then [c] else T l f (c ++ [true]) ++ T l f (c ++ [false])
def TT (l : List Deed) (c : List Bool) : List (List Bool) := T l (8 - c.length) c
theorem TT_leaf {l : List Deed} {c : List Bool} (h : mt l c ≤ c.length) : TT l c = [c] := by
  unfold TT
  cases 8 - c.length with
  | zero => rfl
  | succ f => rw [T, if_pos h]
theorem TT_node {l : List Deed} {c : List Bool} (h : c.length < mt l c) (h8 : mt l c ≤ 8) : TT l c = TT l (c ++ [true]) ++ TT l (c ++ [false]) := by
  unfold TT
  rw [show 8 - c.length = (8 - (c.length + 1)) + 1 by omega, T, if_neg (by omega)]
  simp
def rt (l : List Deed) (c : List Bool) : Nat → List (List Bool)
  | 0 => []
  | i + 1 => (if c.getD i false = true then TT l (c.take i ++ [false]) else []) ++ rt l c i
def Fut (l : List Deed) (c : List Bool) : List (List Bool) := TT l c ++ rt l c c.length
theorem rt_congr {l : List Deed} {c d : List Bool} : ∀ {i : Nat}, c.take i = d.take i → rt l c i = rt l d i
  | 0, _ => rfl
  | i + 1, h => by
    have h1 : c.take i = d.take i := by
      have := congrArg (List.take i) h
      simpa [List.take_take] using this
    have h2 : c.getD i false = d.getD i false := by
      have : (c.take (i + 1)).getD i false = (d.take (i + 1)).getD i false := by rw [h]
      simpa [List.getD_eq_getElem?_getD, List.getElem?_take] using this
    rw [rt, rt, h1, h2, rt_congr h1]
theorem Fut_true {l : List Deed} {c : List Bool} (h : c.length < mt l c) (h8 : mt l c ≤ 8) : Fut l c = Fut l (c ++ [true]) := by
  unfold Fut
  rw [TT_node h h8, List.length_append, List.append_assoc]
  congr 1
  rw [show c.length + [true].length = c.length + 1 from rfl, rt]
  rw [if_pos (by simp [List.getD_eq_getElem?_getD]), List.take_left]
  rw [rt_congr (c := c ++ [true]) (d := c) (by rw [List.take_left, List.take_length])]
theorem Fut_rep {l : List Deed} {c : List Bool} (h8 : mt l c ≤ 8) : ∀ {k : Nat}, c.length + k ≤ mt l c → Fut l c = Fut l (c ++ List.replicate k true)
  | 0, _ => by simp
  | k + 1, h => by
    rw [Fut_rep h8 (k := k) (by omega)]
    have e : mt l (c ++ List.replicate k true) = mt l c := by unfold mt; rw [way_rep]
    rw [Fut_true (by rw [e]; simp; omega) (by rw [e]; exact h8), rep_snoc]
theorem pad_len {c : List Bool} {m : Nat} (h : c.length ≤ m) : (padT c m).length = m := by unfold padT; simp; omega
theorem pad_take {c : List Bool} {m : Nat} (h : c.length ≤ m) : (padT c m).take m = padT c m := List.take_of_length_le (by rw [pad_len h]; exact Nat.le_refl _)
theorem way_pad {l : List Deed} {c : List Bool} {m : Nat} : wayV l (padT c m) = wayV l c := way_rep
theorem Fut_head {l : List Deed} {c : List Bool} (h : c.length ≤ mt l c) (h8 : mt l c ≤ 8) : Fut l c = padT c (mt l c) :: rt l (padT c (mt l c)) (mt l c) := by
  rw [Fut_rep h8 (k := mt l c - c.length) (by omega)]
  show Fut l (padT c (mt l c)) = _
  unfold Fut
  have hl := pad_len h
  rw [TT_leaf (by rw [hl]; unfold mt; rw [way_pad]; exact Nat.le_refl _), hl]
  rfl
theorem rt_none {l : List Deed} {c : List Bool} : ∀ {i : Nat}, backF c i = none → rt l c i = []
  | 0, _ => rfl
  | i + 1, h => by
    unfold backF at h
    split at h
    · cases h
    · rename_i hc; rw [rt, if_neg hc, List.nil_append]; exact rt_none h
theorem rt_some {l : List Deed} {c d : List Bool} : ∀ {i : Nat}, i ≤ c.length → backF c i = some d → rt l c i = Fut l d
  | 0, _, h => by cases h
  | i + 1, hi, h => by
    unfold backF at h
    split at h
    · rename_i hc
      cases h
      rw [rt, if_pos hc]
      unfold Fut
      congr 1
      have hl : (c.take i).length = i := by simp; omega
      rw [List.length_append, hl, show i + [false].length = i + 1 from rfl, rt]
      rw [if_neg (by rw [List.getD_eq_getElem?_getD, List.getElem?_append_right (by omega), hl]; simp), List.nil_append]
      exact rt_congr (by rw [List.take_append_of_le_length (by omega), List.take_take]; simp)
    · rename_i hc; rw [rt, if_neg hc, List.nil_append]; exact rt_some (by omega) h
/-- One step of the enumeration. -/
theorem Fut_step {l : List Deed} {c : List Bool} (h : c.length ≤ mt l c) (h8 : mt l c ≤ 8) : Fut l c = padT c (mt l c) :: (if nb c (mt l c) = true then Fut l (nx c (mt l c)) else []) := by
  rw [Fut_head h h8]
  congr 1
  unfold nb nx nxO
  rw [pad_take h]
  cases hb : backF (padT c (mt l c)) (mt l c) with
  | none => rw [rt_none hb]; rfl
  | some d => rw [rt_some (by rw [pad_len h]; exact Nat.le_refl _) hb]; rfl
theorem back_ex {c d : List Bool} : ∀ {i : Nat}, backF c i = some d → ∃ k, k < i ∧ d = c.take k ++ [false]
  | 0, h => by cases h
  | i + 1, h => by
    unfold backF at h
    split at h
    · cases h; exact ⟨i, by omega, rfl⟩
    · obtain ⟨k, h1, h2⟩ := back_ex h; exact ⟨k, by omega, h2⟩
theorem nx_len {l : List Deed} {c : List Bool} (h : c.length ≤ mt l c) (hn : nb c (mt l c) = true) : (nx c (mt l c)).length ≤ mt l (nx c (mt l c)) := by
  unfold nb nx nxO at *
  rw [pad_take h] at *
  cases hb : backF (padT c (mt l c)) (mt l c) with
  | none => rw [hb] at hn; cases hn
  | some d =>
    obtain ⟨k, h1, h2⟩ := back_ex hb
    have hl := pad_len h
    have hk : ((padT c (mt l c)).take k).length = k := by simp; omega
    have hm : k < mt l (padT c (mt l c)) := by unfold mt; rw [way_pad]; exact h1
    have := mt_more (l := l) (c := padT c (mt l c)) (d := d) (k := k) (fun j hj => by
      rw [h2, getD_app (by omega)]
      simp [List.getD_eq_getElem?_getD, List.getElem?_take, hj]) hm
    show d.length ≤ mt l d
    rw [h2] at this ⊢
    simp only [List.length_append, hk, List.length_singleton]
    omega
end Go.Proofs.Ythdaopmfgmojnaa

/- The text OAll. -/
set_option linter.unusedVariables false
set_option linter.unusedSimpArgs false
namespace Go.Proofs.Ythdaopmfgmojnaa
open Go Go.KK Ow

def foldU {ι : Type} (f : ι → List Bool → ι × Bool) : List (List Bool) → ι → ι
  | [], i => i
  | c :: r, i => if (f i c).2 = true then foldU f r (f i c).1 else (f i c).1
theorem foldU_yes {ι : Type} {f : ι → List Bool → ι × Bool} {c : List Bool} {r : List (List Bool)} {i : ι} (h : (f i c).2 = true) : foldU f (c :: r) i = foldU f r (f i c).1 := by rw [foldU, if_pos h]
theorem foldU_no {ι : Type} {f : ι → List Bool → ι × Bool} {c : List Bool} {r : List (List Bool)} {i : ι} (h : ¬ (f i c).2 = true) : foldU f (c :: r) i = (f i c).1 := by rw [foldU, if_neg h]
theorem pad_pad {c : List Bool} {m : Nat} (h : c.length ≤ m) : padT (padT c m) m = padT c m := by
  have h1 := pad_len h
  generalize padT c m = d at h1 ⊢
  unfold padT; rw [h1]; simp
theorem nx_pad {c : List Bool} {m : Nat} (h : c.length ≤ m) : nx (padT c m) m = nx c m ∧ nb (padT c m) m = nb c m := by
  unfold nx nb nxO; rw [pad_pad h]; exact ⟨rfl, rfl⟩
/-- What is still to come. -/
def futB (l : List Deed) (ok : Bool) (c : List Bool) : List (List Bool) := if ok = true then Fut l c else []
theorem fut_step {l : List Deed} {c : List Bool} (h : c.length ≤ mt l c) (h8 : mt l c ≤ 8) : futB l true c = padT c (mt l c) :: futB l (nb c (mt l c)) (nx c (mt l c)) := by
  show Fut l c = _
  rw [Fut_step h h8]; rfl
set_option maxRecDepth 10000 in
theorem all_ok {ι : Type} {Hf : ι → List Asn} {f : ι → List Bool → ι × Bool} {g : Nat} {caps : List Value} [hB : Body Try.prog g] {a : Option Addr} {n cp : Nat} {xs : List Deed} [hx : ∀ i, SlIn deedE (Hf i) a xs] (hn : n = xs.length) (hvb : validB xs = true)
    (hcall : ∀ (i : ι) (c : List Bool) (a1 a2 : Option Addr) (c1 c2 : Nat), c.length = mt xs c → c.length ≤ 8 → CallS Try.prog g ([Value.slice a1 c.length c1, Value.slice a2 (wayV xs c).met.length c2] ++ caps).toArray (sl boolE a1 c1 c :: sl intE a2 c2 (fz (wayV xs c).met) :: Hf i) (fun v M => v = .bool (f i c).2 ∧ M = sl boolE a1 c1 c :: sl intE a2 c2 (fz (wayV xs c).met) :: Hf (f i c).1)) (i0 : ι) :
    CallS Try.prog 45 [.slice a n cp, .func (.func g) #[] caps.toArray].toArray (Hf i0) (fun v M => v = .tuple #[] ∧ M = Hf (foldU f (Fut xs []) i0)) := by
  subst hn
  refine CallS.ent ?_
  refine CallS.enter Try.func45 rfl rfl rfl rfl rfl ?_
  refine J.seq rfl ?_
  refine J.region rfl ?_
  refine JO.pur rfl rfl rfl (Pur.assign rfl) ?_
  refine JO.nil ?_
  refine J.seq rfl ?_
  refine J.region rfl ?_
  refine JO.pur rfl rfl rfl (Pur.assign rfl) ?_
  refine JO.nil ?_
  refine J.block rfl ?_
  refine J.loopF (ι := List Bool × Bool × Option Addr × Nat × ι) (fun q => (q.2.1 = true → q.1.length ≤ mt xs q.1) ∧ foldU f (futB xs q.2.1 q.1) q.2.2.2.2 = foldU f (Fut xs []) i0) (fun q => [(4, .slice q.2.2.1 q.1.length q.2.2.2.1), (5, .bool q.2.1)]) [(0, _), (1, _)] (fun q => sl boolE q.2.2.1 q.2.2.2.1 q.1 :: Hf q.2.2.2.2) (fun q => (futB xs q.2.1 q.1).length) ([], true, none, 0, i0) rfl (.cons rfl rfl (.cons rfl rfl .nil)) (.cons rfl rfl (.cons rfl rfl .nil)) (fun h s => sl_nil_new (E := boolE) s) ⟨fun _ => Nat.zero_le _, rfl⟩ ?_
  rintro ⟨c, ok, a4, c4, i⟩ ⟨hc, hfu⟩ ih0
  try dsimp only
  dsimp only at hc hfu
  refine J.seq rfl ?_
  refine J.seq rfl ?_
  refine J.region rfl ?_
  refine JO.pur rfl rfl rfl (Pur.move rfl) ?_
  refine JO.nil ?_
  refine J.splitB 8 rfl (fun h8 => ?_) (fun h8 => ?_)
  · try simp only [decide_eq_true_eq, decide_eq_false_iff_not, Bool.not_eq_true', Bool.not_eq_false', Bool.and_eq_true, Bool.or_eq_true, Bool.and_eq_false_iff, Bool.or_eq_false_iff, Option.isNone_some, Option.isSome_some, Option.isNone_none, Option.isSome_none, Int.not_lt, Int.not_le, beq_iff_eq, beq_eq_false_iff_ne, bne_iff_ne, ne_eq, Bool.not_not, Decidable.not_not] at h8
    have hok : ok = true := by simpa using h8
    subst hok
    have hcl := hc rfl
    have h8 := mt_le hvb c
    have hmt : mt xs c = (wayV xs c).met.length := rfl
    refine J.condT rfl rfl ?_
    refine J.skip rfl ?_
    refine J.block rfl ?_
    refine J.seq rfl ?_
    refine J.region rfl ?_
    refine JO.pur rfl rfl rfl (Pur.move rfl) ?_
    refine JO.pur rfl rfl rfl (Pur.move rfl) ?_
    refine JO.eff rfl rfl rfl (Eff.call rfl (way_ok (xs := xs) (cs := c) (L := sl boolE a4 c4 c :: Hf i) rfl rfl (valid_len hvb) (valid_open hvb))) ?_
    rintro _ _ ⟨a6, c6, a7, c7, rfl, rfl⟩
    refine JO.pur rfl rfl rfl (Pur.move rfl) ?_
    refine JO.pur rfl rfl rfl (Pur.extract rfl rfl) ?_
    refine JO.pur rfl rfl rfl (Pur.extract rfl rfl) ?_
    refine JO.pur rfl rfl rfl (Pur.assign rfl) ?_
    refine JO.pur rfl rfl rfl (Pur.assign rfl) ?_
    refine JO.nil ?_
    refine J.seq rfl ?_
    refine J.block rfl ?_
    refine J.loopF (ι := Option Addr × Nat × Nat) (fun q => q.2.2 ≤ mt xs c - c.length) (fun q => [(4, .slice q.1 (c.length + q.2.2) q.2.1)]) [(0, _), (1, _), (7, _)] (fun q => sl boolE q.1 q.2.1 (c ++ List.replicate q.2.2 true) :: sl intE a7 c7 (fz (wayV xs c).met) :: Hf i) (fun q => mt xs c - c.length - q.2.2) (a4, c4, 0) rfl (.cons rfl rfl (.cons rfl rfl (.cons rfl rfl .nil))) (.cons rfl rfl .nil) (fun h s => by dsimp only; rw [List.replicate_zero, List.append_nil]; exact SubC.out h s) (Nat.zero_le _) ?_
    rintro ⟨b4, d4, k⟩ hk ih1
    try dsimp only
    dsimp only at hk
    have hlen3 : (c ++ List.replicate k true).length = c.length + k := by simp
    refine J.seq rfl ?_
    refine J.seq rfl ?_
    refine J.region rfl ?_
    refine JO.pur rfl rfl rfl (Pur.move rfl) ?_
    refine JO.pur rfl rfl rfl (Pur.len rfl) ?_
    refine JO.pur rfl rfl rfl (Pur.move rfl) ?_
    refine JO.pur rfl rfl rfl (Pur.len rfl) ?_
    refine JO.pur rfl rfl rfl (Pur.lss rfl rfl) ?_
    refine JO.nil ?_
    refine J.splitB 19 rfl (fun h19 => ?_) (fun h19 => ?_)
    · try simp only [decide_eq_true_eq, decide_eq_false_iff_not, Bool.not_eq_true', Bool.not_eq_false', Bool.and_eq_true, Bool.or_eq_true, Bool.and_eq_false_iff, Bool.or_eq_false_iff, Option.isNone_some, Option.isSome_some, Option.isNone_none, Option.isSome_none, Int.not_lt, Int.not_le, beq_iff_eq, beq_eq_false_iff_ne, bne_iff_ne, ne_eq, Bool.not_not, Decidable.not_not] at h19
      refine J.condT rfl rfl ?_
      refine J.skip rfl ?_
      refine J.block rfl ?_
      refine J.region rfl ?_
      refine JO.pur rfl rfl rfl (Pur.move rfl) ?_
      refine JO.eff rfl rfl rfl (Eff.buildSlice boolE [true] rfl rfl rfl rfl rfl rfl rfl) ?_
      rintro _ _ ⟨b21, rfl, -, rfl⟩
      refine JO.eff rfl rfl rfl (Eff.append rfl rfl rfl rfl (by first | rfl | omega | (simp; done) | (simp; omega)) (by first | rfl | omega | (simp; done) | (simp; omega)) (by decide) (by first | omega | (simp only [List.length_cons, List.length_nil]; omega) | (simp; omega)) (by first | omega | (simp only [List.length_cons, List.length_nil]; omega) | (simp; omega)) (fun h => by cases h)) ?_
      rintro _ _ ⟨a22, c22, rfl, rfl⟩
      refine JO.pur rfl rfl rfl (Pur.assign rfl) ?_
      refine JO.nil ?_
      refine J.inBlock ?_
      exact J.weaken (.cons rfl (by dsimp only; rw [hlen3]; rfl) (.cons rfl rfl (.cons rfl rfl (.cons rfl rfl .nil)))) (fun h s => by dsimp only; rw [← rep_snoc]; exact SubC.out h s) (ih1 (a22, c22, k + 1) (by dsimp only; omega) (by dsimp only; omega))
    · try simp only [decide_eq_true_eq, decide_eq_false_iff_not, Bool.not_eq_true', Bool.not_eq_false', Bool.and_eq_true, Bool.or_eq_true, Bool.and_eq_false_iff, Bool.or_eq_false_iff, Option.isNone_some, Option.isSome_some, Option.isNone_none, Option.isSome_none, Int.not_lt, Int.not_le, beq_iff_eq, beq_eq_false_iff_ne, bne_iff_ne, ne_eq, Bool.not_not, Decidable.not_not] at h19
      have hpad : c ++ List.replicate k true = (padT c (mt xs c)) := by unfold padT; rw [show k = mt xs c - c.length by omega]
      rw [hpad, show c.length + k = (padT c (mt xs c)).length by rw [← hpad]; exact hlen3.symm]
      have hpl : (padT c (mt xs c)).length = mt xs c := pad_len hcl
      have hwp : wayV xs (padT c (mt xs c)) = wayV xs c := way_pad
      have hmp : mt xs (padT c (mt xs c)) = mt xs c := congrArg (fun w => w.met.length) hwp
      have hnp := nx_pad hcl
      refine J.condF rfl rfl ?_
      refine J.exit rfl rfl ?_
      refine J.seq rfl ?_
      refine J.seq rfl ?_
      refine J.region rfl ?_
      refine JO.pur rfl rfl rfl (Pur.move rfl) ?_
      refine JO.pur rfl rfl rfl (Pur.move rfl) ?_
      refine JO.pur rfl rfl rfl (Pur.move rfl) ?_
      refine JO.eff rfl rfl rfl (Eff.callV rfl rfl ((by have h1 := hcall i (padT c (mt xs c)) b4 a7 d4 c7 (hpl.trans hmp.symm) (by omega); rw [hwp] at h1; exact h1))) ?_
      rintro _ _ ⟨rfl, rfl⟩
      refine JO.pur rfl rfl rfl (Pur.not rfl) ?_
      refine JO.nil ?_
      refine J.splitB 27 rfl (fun h27 => ?_) (fun h27 => ?_)
      · try simp only [decide_eq_true_eq, decide_eq_false_iff_not, Bool.not_eq_true', Bool.not_eq_false', Bool.and_eq_true, Bool.or_eq_true, Bool.and_eq_false_iff, Bool.or_eq_false_iff, Option.isNone_some, Option.isSome_some, Option.isNone_none, Option.isSome_none, Int.not_lt, Int.not_le, beq_iff_eq, beq_eq_false_iff_ne, bne_iff_ne, ne_eq, Bool.not_not, Decidable.not_not] at h27
        have hf2 : ¬ (f i (padT c (mt xs c))).2 = true := by simpa using h27
        refine J.condT rfl rfl ?_
        refine J.ret rfl rfl ?_
        refine ⟨_, _, ⟨rfl, rfl⟩, rfl, fun h s => ?_⟩
        rw [← hfu, fut_step hcl h8, foldU_no hf2]
        exact SubC.out h s
      · try simp only [decide_eq_true_eq, decide_eq_false_iff_not, Bool.not_eq_true', Bool.not_eq_false', Bool.and_eq_true, Bool.or_eq_true, Bool.and_eq_false_iff, Bool.or_eq_false_iff, Option.isNone_some, Option.isSome_some, Option.isNone_none, Option.isSome_none, Int.not_lt, Int.not_le, beq_iff_eq, beq_eq_false_iff_ne, bne_iff_ne, ne_eq, Bool.not_not, Decidable.not_not] at h27
        have hf2 : (f i (padT c (mt xs c))).2 = true := by simpa using h27
        refine J.condF rfl rfl ?_
        refine J.skip rfl ?_
        refine J.region rfl ?_
        refine JO.pur rfl rfl rfl (Pur.move rfl) ?_
        refine JO.pur rfl rfl rfl (Pur.move rfl) ?_
        refine JO.pur rfl rfl rfl (Pur.len rfl) ?_
        refine JO.eff rfl rfl rfl (Eff.call rfl (next_ok (m := mt xs c) (c := (padT c (mt xs c))) rfl (by omega) (by omega))) ?_
        rintro _ _ ⟨a5, c5, rfl, rfl⟩
        refine JO.pur rfl rfl rfl (Pur.move rfl) ?_
        refine JO.pur rfl rfl rfl (Pur.extract rfl rfl) ?_
        refine JO.pur rfl rfl rfl (Pur.extract rfl rfl) ?_
        refine JO.pur rfl rfl rfl (Pur.assign rfl) ?_
        refine JO.pur rfl rfl rfl (Pur.assign rfl) ?_
        refine JO.nil ?_
        refine J.inBlock ?_
        exact J.weaken (.cons rfl (by dsimp only; rw [← hnp.1]; rfl) (.cons rfl (by dsimp only; rw [← hnp.2]; rfl) (.cons rfl rfl (.cons rfl rfl .nil)))) (fun h s => by dsimp only; rw [hnp.1] at s; exact SubC.out h s) (ih0 (nx c (mt xs c), nb c (mt xs c), a5, c5, (f i (padT c (mt xs c))).1) ⟨(fun e => nx_len hcl e), (by dsimp only; rw [← hfu, fut_step hcl h8, foldU_yes hf2])⟩ (by dsimp only; rw [fut_step hcl h8]; simp))
  · try simp only [decide_eq_true_eq, decide_eq_false_iff_not, Bool.not_eq_true', Bool.not_eq_false', Bool.and_eq_true, Bool.or_eq_true, Bool.and_eq_false_iff, Bool.or_eq_false_iff, Option.isNone_some, Option.isSome_some, Option.isNone_none, Option.isSome_none, Int.not_lt, Int.not_le, beq_iff_eq, beq_eq_false_iff_ne, bne_iff_ne, ne_eq, Bool.not_not, Decidable.not_not] at h8
    have hok : ok = false := by simpa using h8
    subst hok
    refine J.condF rfl rfl ?_
    refine J.exit rfl rfl ?_
    refine J.fin rfl ?_
    refine ⟨_, _, ⟨rfl, rfl⟩, rfl, fun h s => ?_⟩
    rw [← hfu]
    show Sat h (Hf i)
    exact SubC.out h s

end Go.Proofs.Ythdaopmfgmojnaa

/- The text OPaths. -/
set_option linter.unusedVariables false
set_option linter.unusedSimpArgs false
namespace Go.Proofs.Ythdaopmfgmojnaa
open Go Go.KK Ow

def outA (b : Nat) (out : List Bool) : Asn := fun h => ∃ p : Option Addr × Nat, star [blk b (.cells #[.slice p.1 out.length p.2] 23), sl boolE p.1 p.2 out] h
theorem outA_mk {b : Nat} {out : List Bool} {a : Option Addr} {c : Nat} {L : List Asn} {h : Hp} (s : Sat h (blk b (.cells #[.slice a out.length c] 23) :: sl boolE a c out :: L)) : Sat h (outA b out :: L) := by
  have h1 := (Sat.star (M := [blk b (.cells #[.slice a out.length c] 23), sl boolE a c out]) (L := L)).2 s
  exact h1.cons_imp (fun k hk => ⟨(a, c), hk⟩) (fun _ h => h)
theorem outA_open {b : Nat} {out : List Bool} {L : List Asn} {h : Hp} (s : Sat h (outA b out :: L)) : ∃ a c, Sat h (blk b (.cells #[.slice a out.length c] 23) :: sl boolE a c out :: L) := by
  obtain ⟨p, hp⟩ := Sat.ex s
  exact ⟨p.1, p.2, Sat.star.1 hp⟩
def lead (ms : List Nat) (at' : Int) : Nat := (ms.takeWhile (fun x : Nat => decide ((x : Int) < at'))).length
theorem lead_stop {at' : Int} : ∀ {ms : List Nat} {n : Nat}, (∀ j x, j < n → ms[j]? = some x → (x : Int) < at') → n ≤ ms.length → (∀ x, ms[n]? = some x → ¬ (x : Int) < at') → lead ms at' = n
  | [], n, _, h, _ => by simp at h; subst h; rfl
  | y :: r, 0, _, _, h => by
    have := h y rfl
    unfold lead; rw [List.takeWhile_cons, if_neg (by simpa using this)]; rfl
  | y :: r, n + 1, h, h1, h2 => by
    have hy := h 0 y (by omega) rfl
    have ih := lead_stop (ms := r) (n := n) (fun j x hj hx => h (j + 1) x (by omega) (by simpa using hx)) (by simpa using h1) (fun x hx => h2 x (by simpa using hx))
    unfold lead at ih ⊢
    rw [List.takeWhile_cons, if_pos (by simpa using hy), List.length_cons, ih]
theorem lt_more {ms : List Nat} {i mi : Nat} {t : Int} (h : ∀ j x, j < i → ms[j]? = some x → (x : Int) < t) (hmi : ms[i]? = some mi) (h' : (mi : Int) < t) : ∀ j x, j < i + 1 → ms[j]? = some x → (x : Int) < t := fun j x hj hx => by
  rcases Nat.lt_or_ge j i with h1 | h1
  · exact h j x h1 hx
  · have e : j = i := by omega
    rw [e, hmi] at hx; cases hx; exact h'
def rf (xs : List Deed) (i : Option (List Bool)) (c : List Bool) : Option (List Bool) × Bool := if (runV xs c).2.1 = sNone then (i, true) else (some (c.take (lead (wayV xs c).met (runV xs c).2.2)), false)
def rfV (xs : List Deed) : Option (List Bool) := foldU (rf xs) (Fut xs []) none
def pf (i : Int) (_ : List Bool) : Int × Bool := (IntKind.i64.wrap (i + 1), true)
def acV (xs : List Deed) : Bool × Int := if validB xs = true then (!(rfV xs).isSome, 0) else (false, 220)
def reV (xs : List Deed) : List Bool × Bool × Int := if validB xs = true then ((rfV xs).getD [], (rfV xs).isSome, 0) else ([], false, 220)
def paV (xs : List Deed) : Int × Int := if validB xs = true then (((Fut xs []).length : Nat), 0) else (0, 220)
theorem T_len (l : List Deed) : ∀ (f : Nat) (c : List Bool), (T l f c).length ≤ 2 ^ f
  | 0, c => by simp [T]
  | f + 1, c => by
    rw [T]
    split
    · simp; exact Nat.one_le_two_pow
    · have h1 := T_len l f (c ++ [true])
      have h2 := T_len l f (c ++ [false])
      rw [List.length_append, Nat.pow_succ]; omega
theorem Fut_len (l : List Deed) : (Fut l []).length ≤ 256 := by
  have := T_len l 8 []
  show (T l 8 [] ++ []).length ≤ 256
  simpa using this
theorem pf_fold : ∀ (l : List (List Bool)) (i : Int), 0 ≤ i → i + l.length ≤ 1000 → foldU pf l i = i + l.length
  | [], i, _, _ => by simp [foldU]
  | c :: r, i, h0, h => by
    rw [List.length_cons] at h ⊢
    have hw : IntKind.i64.wrap (i + 1) = i + 1 := wr64 (by omega)
    rw [foldU_yes (show (pf i c).2 = true from rfl)]
    show foldU pf r (IntKind.i64.wrap (i + 1)) = _
    rw [hw, pf_fold r (i + 1) (by omega) (by omega)]; omega
theorem p1_ok {A B : Asn} {L : List Asn} {b : Nat} {u v : Value} {i : Int} :
    CallS Try.prog 46 [u, v, .pointer (some ⟨b, 0, none⟩)].toArray (A :: B :: blk b (.cells #[.int .i64 i] 3) :: L) (fun w M => w = .bool true ∧ M = A :: B :: blk b (.cells #[.int .i64 (IntKind.i64.wrap (i + 1))] 3) :: L) := by
  refine CallS.enter Try.func46 rfl rfl rfl rfl rfl ?_
  refine J.seq rfl ?_
  refine J.region rfl ?_
  refine JO.pur rfl rfl rfl (Pur.assign rfl) ?_
  refine JO.nil ?_
  refine J.seq rfl ?_
  refine J.region rfl ?_
  refine JO.pur rfl rfl rfl (Pur.load rfl (CellIn.blk rfl)) ?_
  refine JO.pur rfl rfl rfl (Pur.addW rfl rfl) ?_
  refine JO.effN rfl rfl (Eff.storeB rfl rfl rfl .head) ?_
  rintro _ _ ⟨rfl, rfl⟩
  refine JO.nil ?_
  refine J.seq rfl ?_
  refine J.region rfl ?_
  refine JO.pur rfl rfl rfl (Pur.assign rfl) ?_
  refine JO.nil ?_
  refine J.ret rfl rfl ?_
  exact ⟨rfl, rfl⟩

theorem Paths_ok {L : List Asn} {a : Option Addr} {n cp : Nat} {xs : List Deed} [SlIn deedE L a xs] (hn : n = xs.length) (hb : xs.length ≤ 3000000000000) :
    CallS Try.prog 30 [.slice a n cp].toArray L (fun v M => v = .tuple #[.int .i64 (paV xs).1, .int .i64 (paV xs).2] ∧ M = L) := by
  subst hn
  refine CallS.ent ?_
  refine CallS.enter Try.func30 rfl rfl rfl rfl rfl ?_
  refine J.seq rfl ?_
  refine J.region rfl ?_
  refine JO.pur rfl rfl rfl (Pur.assign rfl) ?_
  refine JO.pur rfl rfl rfl (Pur.assign rfl) ?_
  refine JO.nil ?_
  refine J.seq rfl ?_
  refine J.seq rfl ?_
  refine J.region rfl ?_
  refine JO.pur rfl rfl rfl (Pur.move rfl) ?_
  refine JO.effR rfl rfl rfl (Eff.call rfl (valid_ok (xs := xs) rfl hb)) ?_
  refine JO.pur rfl rfl rfl (Pur.not rfl) ?_
  refine JO.nil ?_
  refine J.splitB 7 rfl (fun h7 => ?_) (fun h7 => ?_)
  · try simp only [decide_eq_true_eq, decide_eq_false_iff_not, Bool.not_eq_true', Bool.not_eq_false', Bool.and_eq_true, Bool.or_eq_true, Bool.and_eq_false_iff, Bool.or_eq_false_iff, Option.isNone_some, Option.isSome_some, Option.isNone_none, Option.isSome_none, Int.not_lt, Int.not_le, beq_iff_eq, beq_eq_false_iff_ne, bne_iff_ne, ne_eq, Bool.not_not, Decidable.not_not] at h7
    have hvb : ¬ validB xs = true := by simpa using h7
    refine J.condT rfl rfl ?_
    refine J.seq rfl ?_
    refine J.region rfl ?_
    refine JO.pur rfl rfl rfl (Pur.assign rfl) ?_
    refine JO.pur rfl rfl rfl (Pur.assign rfl) ?_
    refine JO.nil ?_
    refine J.ret rfl rfl ?_
    exact ⟨_, _, ⟨by unfold paV; rw [if_neg hvb]; rfl, rfl⟩, rfl, SubC.out⟩
  · try simp only [decide_eq_true_eq, decide_eq_false_iff_not, Bool.not_eq_true', Bool.not_eq_false', Bool.and_eq_true, Bool.or_eq_true, Bool.and_eq_false_iff, Bool.or_eq_false_iff, Option.isNone_some, Option.isSome_some, Option.isNone_none, Option.isSome_none, Int.not_lt, Int.not_le, beq_iff_eq, beq_eq_false_iff_ne, bne_iff_ne, ne_eq, Bool.not_not, Decidable.not_not] at h7
    have hvb : validB xs = true := by simpa using h7
    have hv := valid_open hvb
    have hb6 := valid_len hvb
    refine J.condF rfl rfl ?_
    refine J.skip rfl ?_
    refine J.seq rfl ?_
    refine J.region rfl ?_
    refine JO.eff rfl rfl rfl (Eff.alloc (cs := [_]) rfl) ?_
    rintro _ _ ⟨b4, rfl, rfl⟩
    refine JO.effN rfl rfl (Eff.storeB rfl rfl rfl .head) ?_
    rintro _ _ ⟨rfl, rfl⟩
    refine JO.nil ?_
    refine J.seq rfl ?_
    refine J.region rfl ?_
    refine JO.pur rfl rfl rfl (Pur.move rfl) ?_
    refine JO.pur rfl rfl rfl (Pur.makeFunc rfl rfl) ?_
    refine JO.eff rfl rfl rfl (Eff.call rfl (all_ok (ι := Int) (Hf := fun i => blk b4 (.cells #[.int .i64 i] 3) :: L) (f := pf) (g := 46) (caps := [.pointer (some ⟨b4, 0, none⟩)]) (xs := xs) rfl hvb (fun i c a1 a2 c1 c2 _ _ => p1_ok) 0)) ?_
    rintro _ _ ⟨rfl, rfl⟩
    have hpf : foldU pf (Fut xs []) 0 = ((Fut xs []).length : Nat) := by have := Fut_len xs; rw [pf_fold _ 0 (by omega) (by omega)]; omega
    rw [hpf]
    refine JO.nil ?_
    refine J.seq rfl ?_
    refine J.region rfl ?_
    refine JO.pur rfl rfl rfl (Pur.load rfl (CellIn.blk rfl)) ?_
    refine JO.pur rfl rfl rfl (Pur.assign rfl) ?_
    refine JO.pur rfl rfl rfl (Pur.assign rfl) ?_
    refine JO.nil ?_
    refine J.ret rfl rfl ?_
    exact ⟨_, _, ⟨by unfold paV; rw [if_pos hvb]; rfl, rfl⟩, rfl, SubC.out⟩

set_option maxRecDepth 10000 in
theorem r1_ok {L : List Asn} {b1 b2 b3 : Nat} {a a1 a2 : Option Addr} {cp c1 c2 : Nat} {xs : List Deed} {c out : List Bool} {fd : Bool} [SlIn deedE L a xs] (hvb : validB xs = true) (hm : c.length = mt xs c) (h8 : c.length ≤ 8) :
    CallS Try.prog 52 [.slice a1 c.length c1, .slice a2 (wayV xs c).met.length c2, .pointer (some ⟨b1, 0, none⟩), .pointer (some ⟨b2, 0, none⟩), .pointer (some ⟨b3, 0, none⟩)].toArray (sl boolE a1 c1 c :: sl intE a2 c2 (fz (wayV xs c).met) :: blk b1 (.cells #[.slice a xs.length cp] 22) :: outA b2 out :: blk b3 (.cells #[.bool fd] 4) :: L) (fun v M => v = .bool (rf xs (if fd = true then some out else none) c).2 ∧ M = sl boolE a1 c1 c :: sl intE a2 c2 (fz (wayV xs c).met) :: blk b1 (.cells #[.slice a xs.length cp] 22) :: outA b2 ((if (runV xs c).2.1 = sNone then out else c.take (lead (wayV xs c).met (runV xs c).2.2))) :: blk b3 (.cells #[.bool (if (runV xs c).2.1 = sNone then fd else true)] 4) :: L) := by
  have hv := valid_open hvb
  have hb6 := valid_len hvb
  have hfzl := fz_len (wayV xs c).met
  have hw2 : (wayV xs c).met.length ≤ xs.length := (wlen (l := xs) (c := c) (Nat.le_refl _)).2.1
  refine CallS.ent ?_
  refine CallS.enter Try.func52 rfl rfl rfl rfl rfl ?_
  refine J.seq rfl ?_
  refine J.region rfl ?_
  refine JO.pur rfl rfl rfl (Pur.assign rfl) ?_
  refine JO.nil ?_
  refine J.seq rfl ?_
  refine J.region rfl ?_
  refine JO.pur rfl rfl rfl (Pur.load rfl (CellIn.blk rfl)) ?_
  refine JO.pur rfl rfl rfl (Pur.move rfl) ?_
  refine JO.eff rfl rfl rfl (Eff.call rfl (run_ok (xs := xs) (cs := c) rfl rfl hb6 hv)) ?_
  rintro _ _ ⟨p, aa, ca, ac, cc, af, cf, rfl, rfl⟩
  refine JO.pur rfl rfl rfl (Pur.move rfl) ?_
  refine JO.pur rfl rfl rfl (Pur.extract rfl rfl) ?_
  refine JO.pur rfl rfl rfl (Pur.extract rfl rfl) ?_
  refine JO.pur rfl rfl rfl (Pur.extract rfl rfl) ?_
  refine JO.pur rfl rfl rfl (Pur.assign rfl) ?_
  refine JO.pur rfl rfl rfl (Pur.assign rfl) ?_
  refine JO.pur rfl rfl rfl (Pur.assign rfl) ?_
  refine JO.nil ?_
  refine J.seq rfl ?_
  refine J.seq rfl ?_
  refine J.region rfl ?_
  refine JO.pur rfl rfl rfl (Pur.move rfl) ?_
  refine JO.pur rfl rfl rfl (Pur.eqlT rfl rfl) ?_
  refine JO.nil ?_
  refine J.splitB 20 rfl (fun h20 => ?_) (fun h20 => ?_)
  · try simp only [decide_eq_true_eq, decide_eq_false_iff_not, Bool.not_eq_true', Bool.not_eq_false', Bool.and_eq_true, Bool.or_eq_true, Bool.and_eq_false_iff, Bool.or_eq_false_iff, Option.isNone_some, Option.isSome_some, Option.isNone_none, Option.isSome_none, Int.not_lt, Int.not_le, beq_iff_eq, beq_eq_false_iff_ne, bne_iff_ne, ne_eq, Bool.not_not, Decidable.not_not] at h20
    have hr : (runV xs c).2.1 = sNone := h20
    refine J.condT rfl rfl ?_
    refine J.seq rfl ?_
    refine J.region rfl ?_
    refine JO.pur rfl rfl rfl (Pur.assign rfl) ?_
    refine JO.nil ?_
    refine J.ret rfl rfl ?_
    refine ⟨_, _, ⟨by unfold rf; rw [if_pos hr]; rfl, rfl⟩, rfl, fun h s => ?_⟩
    rw [if_pos hr, if_pos hr]
    exact SubC.out h s
  · try simp only [decide_eq_true_eq, decide_eq_false_iff_not, Bool.not_eq_true', Bool.not_eq_false', Bool.and_eq_true, Bool.or_eq_true, Bool.and_eq_false_iff, Bool.or_eq_false_iff, Option.isNone_some, Option.isSome_some, Option.isNone_none, Option.isSome_none, Int.not_lt, Int.not_le, beq_iff_eq, beq_eq_false_iff_ne, bne_iff_ne, ne_eq, Bool.not_not, Decidable.not_not] at h20
    have hr : ¬ (runV xs c).2.1 = sNone := h20
    refine J.condF rfl rfl ?_
    refine J.skip rfl ?_
    refine J.seq rfl ?_
    refine J.region rfl ?_
    refine JO.pur rfl rfl rfl (Pur.assign rfl) ?_
    refine JO.nil ?_
    refine J.seq rfl ?_
    refine J.block rfl ?_
    refine J.loopF (ι := Nat) (fun q => q ≤ (wayV xs c).met.length ∧ ∀ j x, j < q → (wayV xs c).met[j]? = some x → (x : Int) < (runV xs c).2.2) (fun q => [(11, .int .i64 (q : Int))]) [(0, _), (1, _), (3, _), (4, _), (10, _)] (fun q => blk p (arr vrE (runV xs c).1.vars [.slice aa (runV xs c).1.alive.length ca, .slice ac (runV xs c).1.count.length cc, .slice af (fz (runV xs c).1.freed).length cf] 66) :: sl boolE aa ca (runV xs c).1.alive :: sl intE ac cc (runV xs c).1.count :: sl intE af cf (fz (runV xs c).1.freed) :: sl boolE a1 c1 c :: sl intE a2 c2 (fz (wayV xs c).met) :: blk b1 (.cells #[.slice a xs.length cp] 22) :: outA b2 out :: blk b3 (.cells #[.bool fd] 4) :: L) (fun q => (wayV xs c).met.length - q) 0 rfl (.cons rfl rfl (.cons rfl rfl (.cons rfl rfl (.cons rfl rfl (.cons rfl rfl .nil))))) (.cons rfl rfl .nil) (by first | exact fun _ h => h | exact SubC.out | (dsimp only; exact SubC.out)) ⟨Nat.zero_le _, fun j x h => by omega⟩ ?_
    rintro i ⟨hi, hlt⟩ ih0
    try dsimp only
    refine J.seq rfl ?_
    refine J.seq rfl ?_
    refine J.region rfl ?_
    refine JO.pur rfl rfl rfl (Pur.move rfl) ?_
    refine JO.pur rfl rfl rfl (Pur.move rfl) ?_
    refine JO.pur rfl rfl rfl (Pur.len rfl) ?_
    refine JO.pur rfl rfl rfl (Pur.lss rfl rfl) ?_
    refine JO.pur rfl rfl rfl (Pur.move rfl) ?_
    refine JO.splitB 25 rfl (fun h25 => ?_) (fun h25 => ?_)
    · try simp only [decide_eq_true_eq, decide_eq_false_iff_not, Bool.not_eq_true', Bool.not_eq_false', Bool.and_eq_true, Bool.or_eq_true, Bool.and_eq_false_iff, Bool.or_eq_false_iff, Option.isNone_some, Option.isSome_some, Option.isNone_none, Option.isSome_none, Int.not_lt, Int.not_le, beq_iff_eq, beq_eq_false_iff_ne, bne_iff_ne, ne_eq, Bool.not_not, Decidable.not_not] at h25
      have hil : i < (wayV xs c).met.length := by omega
      obtain ⟨mi, hmi⟩ : ∃ mi, (wayV xs c).met[i]? = some mi := ⟨_, List.getElem?_eq_getElem hil⟩
      have hfi : (fz (wayV xs c).met)[i]? = some (mi : Int) := by unfold fz; rw [List.getElem?_map, hmi]; rfl
      refine JO.pur rfl rfl rfl (Pur.move rfl) ?_
      refine JO.pur rfl rfl rfl (Pur.move rfl) ?_
      refine JO.pur rfl rfl rfl (Pur.idx rfl rfl rfl (by first | rfl | (simp; done) | omega) rfl (by omega)) ?_
      refine JO.pur rfl rfl rfl (Pur.load rfl (CellIn.el0 rfl hfi rfl)) ?_
      refine JO.pur rfl rfl rfl (Pur.move rfl) ?_
      refine JO.pur rfl rfl rfl (Pur.lss rfl rfl) ?_
      refine JO.pur rfl rfl rfl (Pur.pickT rfl rfl) ?_
      refine JO.nil ?_
      refine J.splitB 32 rfl (fun h32 => ?_) (fun h32 => ?_)
      · try simp only [decide_eq_true_eq, decide_eq_false_iff_not, Bool.not_eq_true', Bool.not_eq_false', Bool.and_eq_true, Bool.or_eq_true, Bool.and_eq_false_iff, Bool.or_eq_false_iff, Option.isNone_some, Option.isSome_some, Option.isNone_none, Option.isSome_none, Int.not_lt, Int.not_le, beq_iff_eq, beq_eq_false_iff_ne, bne_iff_ne, ne_eq, Bool.not_not, Decidable.not_not] at h32
        have h32x : (mi : Int) < (runV xs c).2.2 := h32
        refine J.condT rfl rfl ?_
        refine J.skip rfl ?_
        refine J.block rfl ?_
        refine J.region rfl ?_
        refine JO.pur rfl rfl rfl (Pur.move rfl) ?_
        refine JO.pur rfl rfl rfl (Pur.add rfl rfl (wr64 (by omega))) ?_
        refine JO.pur rfl rfl rfl (Pur.assign rfl) ?_
        refine JO.nil ?_
        refine J.inBlock ?_
        exact J.weaken (.cons rfl (congrArg (Value.int .i64) (by omega)) (.cons rfl rfl (.cons rfl rfl (.cons rfl rfl (.cons rfl rfl (.cons rfl rfl .nil)))))) (by first | exact fun _ h => h | exact SubC.out | (dsimp only; exact SubC.out)) (ih0 (i + 1) ⟨by omega, lt_more hlt hmi h32x⟩ (by omega))
      · try simp only [decide_eq_true_eq, decide_eq_false_iff_not, Bool.not_eq_true', Bool.not_eq_false', Bool.and_eq_true, Bool.or_eq_true, Bool.and_eq_false_iff, Bool.or_eq_false_iff, Option.isNone_some, Option.isSome_some, Option.isNone_none, Option.isSome_none, Int.not_lt, Int.not_le, beq_iff_eq, beq_eq_false_iff_ne, bne_iff_ne, ne_eq, Bool.not_not, Decidable.not_not] at h32
        have hstop : ∀ x, (wayV xs c).met[i]? = some x → ¬ (x : Int) < (runV xs c).2.2 := fun x hx => by rw [hmi] at hx; cases hx; omega
        refine J.condF rfl rfl ?_
        refine J.exit rfl rfl ?_
        refine J.seq rfl ?_
        refine J.imp (M := outA b2 out :: sl boolE a1 c1 c :: sl intE a2 c2 (fz (wayV xs c).met) :: blk b1 (.cells #[.slice a xs.length cp] 22) :: blk b3 (.cells #[.bool fd] 4) :: L) (fun h s => SubC.out h s) ?_
        refine J.ex (A := fun p : Option Addr × Nat => star [blk b2 (.cells #[.slice p.1 out.length p.2] 23), sl boolE p.1 p.2 out]) fun po => ?_
        refine J.star ?_
        simp only [List.cons_append, List.nil_append]
        have hic : i ≤ c.length := by rw [hm]; exact hi
        have hld : lead (wayV xs c).met (runV xs c).2.2 = i := lead_stop hlt hi hstop
        refine J.region rfl ?_
        refine JO.pur rfl rfl rfl (Pur.move rfl) ?_
        refine JO.pur rfl rfl rfl (Pur.move rfl) ?_
        refine JO.fact (fun h hs => SlH.le (a := a1) hs) fun hle1 => ?_
        refine JO.fact (fun h hs => SlH.nil (a := a1) hs) fun hnl => ?_
        have hanil : a1 = none → i = 0 ∧ c1 = 0 := fun e => by have h9 := hnl e; refine ⟨?_, h9.2⟩; have h10 := h9.1; subst h10; simpa using hic
        refine JO.pur rfl rfl rfl (Pur.slice0 rfl rfl rfl (by omega)) ?_
        refine JO.eff rfl rfl rfl (Eff.call rfl (@cloneB _ _ _ _ (c.take i) (take_in (by infer_instance)) (by simp; omega) (by simp; omega) hanil)) ?_
        rintro _ _ ⟨a38, c38, ⟨rfl, hn38⟩, rfl⟩
        refine JO.effN rfl rfl (Eff.storeB rfl rfl rfl .head) ?_
        rintro _ _ ⟨rfl, rfl⟩
        refine JO.effN rfl rfl (Eff.storeB rfl rfl rfl .head) ?_
        rintro _ _ ⟨rfl, rfl⟩
        refine JO.nil ?_
        refine J.seq rfl ?_
        refine J.region rfl ?_
        refine JO.pur rfl rfl rfl (Pur.assign rfl) ?_
        refine JO.nil ?_
        refine J.ret rfl rfl ?_
        refine ⟨_, _, ⟨by unfold rf; rw [if_neg hr]; rfl, rfl⟩, rfl, fun h s => ?_⟩
        rw [if_neg hr, if_neg hr, hld]
        have hil2 : (c.take i).length = i := by rw [List.length_take]; omega
        have s2 : Sat h (blk b2 (.cells #[.slice a38 (c.take i).length c38] 23) :: sl boolE a38 c38 (c.take i) :: sl boolE a1 c1 c :: sl intE a2 c2 (fz (wayV xs c).met) :: blk b1 (.cells #[.slice a xs.length cp] 22) :: blk b3 (.cells #[.bool true] 4) :: L) := by rw [hil2]; first | exact SubC.out h s | (rw [hil2] at s; exact SubC.out h s)
        exact SubC.out h (outA_mk s2)
    · try simp only [decide_eq_true_eq, decide_eq_false_iff_not, Bool.not_eq_true', Bool.not_eq_false', Bool.and_eq_true, Bool.or_eq_true, Bool.and_eq_false_iff, Bool.or_eq_false_iff, Option.isNone_some, Option.isSome_some, Option.isNone_none, Option.isSome_none, Int.not_lt, Int.not_le, beq_iff_eq, beq_eq_false_iff_ne, bne_iff_ne, ne_eq, Bool.not_not, Decidable.not_not] at h25
      have hstop : ∀ x, (wayV xs c).met[i]? = some x → ¬ (x : Int) < (runV xs c).2.2 := fun x hx => by rw [List.getElem?_eq_none (by omega)] at hx; cases hx
      refine JO.no rfl rfl rfl ?_
      refine JO.no rfl rfl rfl ?_
      refine JO.no rfl rfl rfl ?_
      refine JO.no rfl rfl rfl ?_
      refine JO.no rfl rfl rfl ?_
      refine JO.no rfl rfl rfl ?_
      refine JO.pur rfl rfl rfl (Pur.pickF rfl rfl) ?_
      refine JO.nil ?_
      refine J.condF rfl rfl ?_
      refine J.exit rfl rfl ?_
      refine J.seq rfl ?_
      refine J.imp (M := outA b2 out :: sl boolE a1 c1 c :: sl intE a2 c2 (fz (wayV xs c).met) :: blk b1 (.cells #[.slice a xs.length cp] 22) :: blk b3 (.cells #[.bool fd] 4) :: L) (fun h s => SubC.out h s) ?_
      refine J.ex (A := fun p : Option Addr × Nat => star [blk b2 (.cells #[.slice p.1 out.length p.2] 23), sl boolE p.1 p.2 out]) fun po => ?_
      refine J.star ?_
      simp only [List.cons_append, List.nil_append]
      have hic : i ≤ c.length := by rw [hm]; exact hi
      have hld : lead (wayV xs c).met (runV xs c).2.2 = i := lead_stop hlt hi hstop
      refine J.region rfl ?_
      refine JO.pur rfl rfl rfl (Pur.move rfl) ?_
      refine JO.pur rfl rfl rfl (Pur.move rfl) ?_
      refine JO.fact (fun h hs => SlH.le (a := a1) hs) fun hle1 => ?_
      refine JO.fact (fun h hs => SlH.nil (a := a1) hs) fun hnl => ?_
      have hanil : a1 = none → i = 0 ∧ c1 = 0 := fun e => by have h9 := hnl e; refine ⟨?_, h9.2⟩; have h10 := h9.1; subst h10; simpa using hic
      refine JO.pur rfl rfl rfl (Pur.slice0 rfl rfl rfl (by omega)) ?_
      refine JO.eff rfl rfl rfl (Eff.call rfl (@cloneB _ _ _ _ (c.take i) (take_in (by infer_instance)) (by simp; omega) (by simp; omega) hanil)) ?_
      rintro _ _ ⟨a38, c38, ⟨rfl, hn38⟩, rfl⟩
      refine JO.effN rfl rfl (Eff.storeB rfl rfl rfl .head) ?_
      rintro _ _ ⟨rfl, rfl⟩
      refine JO.effN rfl rfl (Eff.storeB rfl rfl rfl .head) ?_
      rintro _ _ ⟨rfl, rfl⟩
      refine JO.nil ?_
      refine J.seq rfl ?_
      refine J.region rfl ?_
      refine JO.pur rfl rfl rfl (Pur.assign rfl) ?_
      refine JO.nil ?_
      refine J.ret rfl rfl ?_
      refine ⟨_, _, ⟨by unfold rf; rw [if_neg hr]; rfl, rfl⟩, rfl, fun h s => ?_⟩
      rw [if_neg hr, if_neg hr, hld]
      have hil2 : (c.take i).length = i := by rw [List.length_take]; omega
      have s2 : Sat h (blk b2 (.cells #[.slice a38 (c.take i).length c38] 23) :: sl boolE a38 c38 (c.take i) :: sl boolE a1 c1 c :: sl intE a2 c2 (fz (wayV xs c).met) :: blk b1 (.cells #[.slice a xs.length cp] 22) :: blk b3 (.cells #[.bool true] 4) :: L) := by rw [hil2]; first | exact SubC.out h s | (rw [hil2] at s; exact SubC.out h s)
      exact SubC.out h (outA_mk s2)

end Go.Proofs.Ythdaopmfgmojnaa

/- The text OAcc. -/
set_option linter.unusedVariables false
set_option linter.unusedSimpArgs false
namespace Go.Proofs.Ythdaopmfgmojnaa
open Go Go.KK Ow

theorem r1_all {L : List Asn} {b1 b2 b3 : Nat} {a a1 a2 : Option Addr} {cp c1 c2 : Nat} {xs : List Deed} {c : List Bool} {i : Option (List Bool)} [SlIn deedE L a xs] (hvb : validB xs = true) (hm : c.length = mt xs c) (h8 : c.length ≤ 8) :
    CallS Try.prog 52 [.slice a1 c.length c1, .slice a2 (wayV xs c).met.length c2, .pointer (some ⟨b1, 0, none⟩), .pointer (some ⟨b2, 0, none⟩), .pointer (some ⟨b3, 0, none⟩)].toArray (sl boolE a1 c1 c :: sl intE a2 c2 (fz (wayV xs c).met) :: blk b1 (.cells #[.slice a xs.length cp] 22) :: outA b2 (i.getD []) :: blk b3 (.cells #[.bool i.isSome] 4) :: L)
      (fun v M => v = .bool (rf xs i c).2 ∧ M = sl boolE a1 c1 c :: sl intE a2 c2 (fz (wayV xs c).met) :: blk b1 (.cells #[.slice a xs.length cp] 22) :: outA b2 ((rf xs i c).1.getD []) :: blk b3 (.cells #[.bool (rf xs i c).1.isSome] 4) :: L) := by
  have h := r1_ok (L := L) (b1 := b1) (b2 := b2) (b3 := b3) (a := a) (a1 := a1) (a2 := a2) (cp := cp) (c1 := c1) (c2 := c2) (out := i.getD []) (fd := i.isSome) hvb hm h8
  have e1 : (if i.isSome = true then some (i.getD []) else none) = i := by cases i <;> rfl
  have e2 : (if (runV xs c).2.1 = sNone then i.getD [] else c.take (lead (wayV xs c).met (runV xs c).2.2)) = (rf xs i c).1.getD [] := by unfold rf; split <;> rfl
  have e3 : (if (runV xs c).2.1 = sNone then i.isSome else true) = (rf xs i c).1.isSome := by unfold rf; split <;> rfl
  rw [e1, e2, e3] at h; exact h
set_option maxRecDepth 10000 in
theorem refusal_ok {L : List Asn} {a : Option Addr} {n cp : Nat} {xs : List Deed} [SlIn deedE L a xs] (hn : n = xs.length) (hvb : validB xs = true) :
    CallS Try.prog 40 [.slice a n cp].toArray L (fun v M => ∃ a' c', v = .tuple #[.slice a' ((rfV xs).getD []).length c', .bool (rfV xs).isSome] ∧ M = sl boolE a' c' ((rfV xs).getD []) :: L) := by
  subst hn
  refine CallS.ent ?_
  refine CallS.enter Try.func40 rfl rfl rfl rfl rfl ?_
  refine J.seq rfl ?_
  refine J.region rfl ?_
  refine JO.eff rfl rfl rfl (Eff.box (cs := [_]) rfl rfl) ?_
  rintro _ _ ⟨b1, rfl, rfl⟩
  refine JO.eff rfl rfl rfl (Eff.alloc (cs := [_]) rfl) ?_
  rintro _ _ ⟨b2, rfl, rfl⟩
  refine JO.eff rfl rfl rfl (Eff.alloc (cs := [_]) rfl) ?_
  rintro _ _ ⟨b3, rfl, rfl⟩
  refine JO.nil ?_
  refine J.seq rfl ?_
  refine J.region rfl ?_
  refine JO.pur rfl rfl rfl (Pur.load rfl (CellIn.blk rfl)) ?_
  refine JO.pur rfl rfl rfl (Pur.makeFunc rfl rfl) ?_
  refine JO.eff rfl rfl rfl (Eff.call rfl (CallS.pre (all_ok (ι := Option (List Bool)) (Hf := fun i => blk b1 (.cells #[.slice a xs.length cp] 22) :: outA b2 (i.getD []) :: blk b3 (.cells #[.bool i.isSome] 4) :: L) (f := rf xs) (g := 52) (caps := [.pointer (some ⟨b1, 0, none⟩), .pointer (some ⟨b2, 0, none⟩), .pointer (some ⟨b3, 0, none⟩)]) (a := a) (n := xs.length) (cp := cp) (xs := xs) rfl hvb (fun i c a1 a2 c1 c2 hm h8 => r1_all hvb hm h8) none) (fun h s => by have s2 := outA_mk (b := b2) (out := []) (a := none) (c := 0) (L := blk b1 (.cells #[.slice a xs.length cp] 22) :: blk b3 (.cells #[.bool false] 4) :: L) (SubC.out h (sl_nil_new (E := boolE) s)); have s3 : Sat h (blk b1 (.cells #[.slice a xs.length cp] 22) :: outA b2 [] :: blk b3 (.cells #[.bool false] 4) :: L) := SubC.out h s2; exact s3))) ?_
  rintro _ _ ⟨rfl, rfl⟩
  refine JO.imp (M := outA b2 ((rfV xs).getD []) :: blk b1 (.cells #[.slice a xs.length cp] 22) :: blk b3 (.cells #[.bool (rfV xs).isSome] 4) :: L) (fun h s => by have s2 : Sat h (blk b1 (.cells #[.slice a xs.length cp] 22) :: outA b2 ((rfV xs).getD []) :: blk b3 (.cells #[.bool (rfV xs).isSome] 4) :: L) := s; exact SubC.out h s2) ?_
  refine JO.ex (A := fun p : Option Addr × Nat => star [blk b2 (.cells #[.slice p.1 ((rfV xs).getD []).length p.2] 23), sl boolE p.1 p.2 ((rfV xs).getD [])]) fun po => ?_
  refine JO.star ?_
  simp only [List.cons_append, List.nil_append]
  refine JO.nil ?_
  refine J.seq rfl ?_
  refine J.mask0 (n := 4) [3] rfl Try.mixed rfl (by kernel_rfl) ?_
  refine JM.take 0 (fun _ h => h) rfl (by kernel_rfl) rfl rfl rfl (m' := 1) rfl (Pur.load rfl (CellIn.blk rfl)) ?_
  refine JM.take 1 (fun _ h => h) rfl (by kernel_rfl) rfl rfl rfl (m' := 3) rfl (Pur.load rfl (CellIn.blk rfl)) ?_
  refine JM.one (i := 2) (by kernel_rfl) ?_
  refine JMi.effN rfl rfl rfl (m' := 7) rfl (Eff.storeB rfl rfl rfl .head) ?_
  rintro _ _ ⟨rfl, rfl⟩
  refine ⟨.inr (fun _ h => h), ?_⟩
  refine JM.one (i := 3) (by kernel_rfl) ?_
  refine JMi.effN rfl rfl rfl (m' := 15) rfl (Eff.storeB rfl rfl rfl .head) ?_
  rintro _ _ ⟨rfl, rfl⟩
  refine ⟨.inl (by simp), ?_⟩
  refine JM.done rfl ?_
  refine J.retC rfl (.cell rfl (ld_scl (CellIn.blk rfl)) (.cell rfl (ld_scl (CellIn.blk rfl)) .nil)) ?_
  exact ⟨_, _, ⟨po.1, po.2, rfl, rfl⟩, rfl, SubC.out⟩

theorem Accepts_ok {L : List Asn} {a : Option Addr} {n cp : Nat} {xs : List Deed} [SlIn deedE L a xs] (hn : n = xs.length) (hb : xs.length ≤ 3000000000000) :
    CallS Try.prog 16 [.slice a n cp].toArray L (fun v M => v = .tuple #[.bool (acV xs).1, .int .i64 (acV xs).2] ∧ M = L) := by
  subst hn
  refine CallS.ent ?_
  refine CallS.enter Try.func16 rfl rfl rfl rfl rfl ?_
  refine J.seq rfl ?_
  refine J.region rfl ?_
  refine JO.pur rfl rfl rfl (Pur.assign rfl) ?_
  refine JO.pur rfl rfl rfl (Pur.assign rfl) ?_
  refine JO.nil ?_
  refine J.seq rfl ?_
  refine J.seq rfl ?_
  refine J.region rfl ?_
  refine JO.pur rfl rfl rfl (Pur.move rfl) ?_
  refine JO.effR rfl rfl rfl (Eff.call rfl (valid_ok (xs := xs) rfl hb)) ?_
  refine JO.pur rfl rfl rfl (Pur.not rfl) ?_
  refine JO.nil ?_
  refine J.splitB 8 rfl (fun h8 => ?_) (fun h8 => ?_)
  · try simp only [decide_eq_true_eq, decide_eq_false_iff_not, Bool.not_eq_true', Bool.not_eq_false', Bool.and_eq_true, Bool.or_eq_true, Bool.and_eq_false_iff, Bool.or_eq_false_iff, Option.isNone_some, Option.isSome_some, Option.isNone_none, Option.isSome_none, Int.not_lt, Int.not_le, beq_iff_eq, beq_eq_false_iff_ne, bne_iff_ne, ne_eq, Bool.not_not, Decidable.not_not] at h8
    have hvb : ¬ validB xs = true := by simpa using h8
    refine J.condT rfl rfl ?_
    refine J.seq rfl ?_
    refine J.region rfl ?_
    refine JO.pur rfl rfl rfl (Pur.assign rfl) ?_
    refine JO.pur rfl rfl rfl (Pur.assign rfl) ?_
    refine JO.nil ?_
    refine J.ret rfl rfl ?_
    exact ⟨_, _, ⟨by unfold acV; rw [if_neg hvb]; rfl, rfl⟩, rfl, SubC.out⟩
  · try simp only [decide_eq_true_eq, decide_eq_false_iff_not, Bool.not_eq_true', Bool.not_eq_false', Bool.and_eq_true, Bool.or_eq_true, Bool.and_eq_false_iff, Bool.or_eq_false_iff, Option.isNone_some, Option.isSome_some, Option.isNone_none, Option.isSome_none, Int.not_lt, Int.not_le, beq_iff_eq, beq_eq_false_iff_ne, bne_iff_ne, ne_eq, Bool.not_not, Decidable.not_not] at h8
    have hvb : validB xs = true := by simpa using h8
    have hv := valid_open hvb
    have hb6 := valid_len hvb
    refine J.condF rfl rfl ?_
    refine J.skip rfl ?_
    refine J.seq rfl ?_
    refine J.region rfl ?_
    refine JO.pur rfl rfl rfl (Pur.move rfl) ?_
    refine JO.eff rfl rfl rfl (Eff.call rfl (refusal_ok (xs := xs) rfl hvb)) ?_
    rintro _ _ ⟨a', c', rfl, rfl⟩
    refine JO.pur rfl rfl rfl (Pur.move rfl) ?_
    refine JO.pur rfl rfl rfl (Pur.extract rfl rfl) ?_
    refine JO.pur rfl rfl rfl (Pur.extract rfl rfl) ?_
    refine JO.pur rfl rfl rfl (Pur.assign rfl) ?_
    refine JO.pur rfl rfl rfl (Pur.assign rfl) ?_
    refine JO.nil ?_
    refine J.seq rfl ?_
    refine J.region rfl ?_
    refine JO.pur rfl rfl rfl (Pur.move rfl) ?_
    refine JO.pur rfl rfl rfl (Pur.not rfl) ?_
    refine JO.pur rfl rfl rfl (Pur.assign rfl) ?_
    refine JO.pur rfl rfl rfl (Pur.assign rfl) ?_
    refine JO.nil ?_
    refine J.ret rfl rfl ?_
    exact ⟨_, _, ⟨by unfold acV; rw [if_pos hvb]; rfl, rfl⟩, rfl, SubC.out⟩

theorem Refusal_ok {L : List Asn} {a : Option Addr} {n cp : Nat} {xs : List Deed} [SlIn deedE L a xs] (hn : n = xs.length) (hb : xs.length ≤ 3000000000000) :
    CallS Try.prog 18 [.slice a n cp].toArray L (fun v M => ∃ a' c', v = .tuple #[.slice a' (reV xs).1.length c', .bool (reV xs).2.1, .int .i64 (reV xs).2.2] ∧ M = sl boolE a' c' (reV xs).1 :: L) := by
  subst hn
  refine CallS.ent ?_
  refine CallS.enter Try.func18 rfl rfl rfl rfl rfl ?_
  refine J.seq rfl ?_
  refine J.region rfl ?_
  refine JO.pur rfl rfl rfl (Pur.assign rfl) ?_
  refine JO.pur rfl rfl rfl (Pur.assign rfl) ?_
  refine JO.pur rfl rfl rfl (Pur.assign rfl) ?_
  refine JO.nil ?_
  refine J.seq rfl ?_
  refine J.seq rfl ?_
  refine J.region rfl ?_
  refine JO.pur rfl rfl rfl (Pur.move rfl) ?_
  refine JO.effR rfl rfl rfl (Eff.call rfl (valid_ok (xs := xs) rfl hb)) ?_
  refine JO.pur rfl rfl rfl (Pur.not rfl) ?_
  refine JO.nil ?_
  refine J.splitB 7 rfl (fun h7 => ?_) (fun h7 => ?_)
  · try simp only [decide_eq_true_eq, decide_eq_false_iff_not, Bool.not_eq_true', Bool.not_eq_false', Bool.and_eq_true, Bool.or_eq_true, Bool.and_eq_false_iff, Bool.or_eq_false_iff, Option.isNone_some, Option.isSome_some, Option.isNone_none, Option.isSome_none, Int.not_lt, Int.not_le, beq_iff_eq, beq_eq_false_iff_ne, bne_iff_ne, ne_eq, Bool.not_not, Decidable.not_not] at h7
    have hvb : ¬ validB xs = true := by simpa using h7
    refine J.condT rfl rfl ?_
    refine J.seq rfl ?_
    refine J.region rfl ?_
    refine JO.pur rfl rfl rfl (Pur.assign rfl) ?_
    refine JO.pur rfl rfl rfl (Pur.assign rfl) ?_
    refine JO.pur rfl rfl rfl (Pur.assign rfl) ?_
    refine JO.nil ?_
    refine J.ret rfl rfl ?_
    refine ⟨_, _, ⟨none, 0, by unfold reV; rw [if_neg hvb]; rfl, rfl⟩, rfl, fun h s => ?_⟩
    unfold reV; rw [if_neg hvb]
    exact sl_nil_new s
  · try simp only [decide_eq_true_eq, decide_eq_false_iff_not, Bool.not_eq_true', Bool.not_eq_false', Bool.and_eq_true, Bool.or_eq_true, Bool.and_eq_false_iff, Bool.or_eq_false_iff, Option.isNone_some, Option.isSome_some, Option.isNone_none, Option.isSome_none, Int.not_lt, Int.not_le, beq_iff_eq, beq_eq_false_iff_ne, bne_iff_ne, ne_eq, Bool.not_not, Decidable.not_not] at h7
    have hvb : validB xs = true := by simpa using h7
    have hv := valid_open hvb
    have hb6 := valid_len hvb
    refine J.condF rfl rfl ?_
    refine J.skip rfl ?_
    refine J.seq rfl ?_
    refine J.region rfl ?_
    refine JO.pur rfl rfl rfl (Pur.move rfl) ?_
    refine JO.eff rfl rfl rfl (Eff.call rfl (refusal_ok (xs := xs) rfl hvb)) ?_
    rintro _ _ ⟨a', c', rfl, rfl⟩
    refine JO.pur rfl rfl rfl (Pur.move rfl) ?_
    refine JO.pur rfl rfl rfl (Pur.extract rfl rfl) ?_
    refine JO.pur rfl rfl rfl (Pur.extract rfl rfl) ?_
    refine JO.pur rfl rfl rfl (Pur.assign rfl) ?_
    refine JO.pur rfl rfl rfl (Pur.assign rfl) ?_
    refine JO.nil ?_
    refine J.seq rfl ?_
    refine J.region rfl ?_
    refine JO.pur rfl rfl rfl (Pur.move rfl) ?_
    refine JO.pur rfl rfl rfl (Pur.move rfl) ?_
    refine JO.pur rfl rfl rfl (Pur.assign rfl) ?_
    refine JO.pur rfl rfl rfl (Pur.assign rfl) ?_
    refine JO.pur rfl rfl rfl (Pur.assign rfl) ?_
    refine JO.nil ?_
    refine J.ret rfl rfl ?_
    refine ⟨_, _, ⟨a', c', by unfold reV; rw [if_pos hvb]; rfl, rfl⟩, rfl, fun h s => ?_⟩
    unfold reV; rw [if_pos hvb]
    exact SubC.out h s

end Go.Proofs.Ythdaopmfgmojnaa
