/-
  A part of the proof of the claim that this folder bears.
-/
import Derived.Test.YthdaopmfgmojnaaPAG
/- The text OWay. -/
set_option linter.unusedVariables false
set_option linter.unusedSimpArgs false
namespace Go.Proofs.Ythdaopmfgmojnaa
open Go Go.KK Ow

theorem mem_take_succ {xs : List Bool} {b x : Bool} {i : Nat} (h : xs[i]? = some x) (hx : ¬ b = x) (hn : ¬ b ∈ xs.take i) : ¬ b ∈ xs.take (i + 1) := by
  rw [List.take_add_one, h]; simp [hx, hn]
theorem mem_of_get {xs : List Bool} {b : Bool} {i : Nat} (h : xs[i]? = some b) : b ∈ xs := List.mem_of_getElem? h
theorem index_ok {L : List Asn} {a : Option Addr} {n cp : Nat} {xs : List Bool} {b : Bool} [SlIn boolE L a xs] (hn : n = xs.length) (hb : xs.length ≤ 1000000) :
    CallS Try.prog 67 [.slice a n cp, .bool b].toArray L (fun v M => ∃ r : Int, (0 ≤ r ↔ b ∈ xs) ∧ v = .int .i64 r ∧ M = L) := by
  subst hn
  refine CallS.ent ?_
  refine CallS.enter Try.func67 rfl rfl rfl rfl rfl ?_
  refine J.seq rfl ?_
  refine J.region rfl ?_
  refine JO.pur rfl rfl rfl (Pur.assign rfl) ?_
  refine JO.nil ?_
  refine J.seq rfl ?_
  refine J.seq rfl ?_
  refine J.region rfl ?_
  refine JO.pur rfl rfl rfl (Pur.move rfl) ?_
  refine JO.pur rfl rfl rfl (Pur.len rfl) ?_
  refine JO.pur rfl rfl rfl (Pur.move rfl) ?_
  refine JO.nil ?_
  refine J.block rfl ?_
  refine J.loopF (ι := Nat) (fun q => q ≤ xs.length ∧ ¬ b ∈ xs.take q) (fun q => [(8, .int .i64 (q : Int))]) [(0, _), (1, _), (7, _)] (fun q => L) (fun q => xs.length - q) 0 rfl (.cons rfl rfl (.cons rfl rfl (.cons rfl rfl .nil))) (.cons rfl rfl .nil) (by first | exact fun _ h => h | exact SubC.out | (dsimp only; exact SubC.out)) ⟨Nat.zero_le _, by simp⟩ ?_
  rintro i ⟨hi, hnb⟩ ih0
  try dsimp only
  refine J.seq rfl ?_
  refine J.region rfl ?_
  refine JO.pur rfl rfl rfl (Pur.lss rfl rfl) ?_
  refine JO.nil ?_
  refine J.seq rfl ?_
  refine J.splitB 9 rfl (fun h9 => ?_) (fun h9 => ?_)
  · try simp only [decide_eq_true_eq, decide_eq_false_iff_not, Bool.not_eq_true', Bool.not_eq_false', Bool.and_eq_true, Bool.or_eq_true, Bool.and_eq_false_iff, Bool.or_eq_false_iff, Option.isNone_some, Option.isSome_some, Option.isNone_none, Option.isSome_none, Int.not_lt, Int.not_le, beq_iff_eq, beq_eq_false_iff_ne, bne_iff_ne, ne_eq, Bool.not_not, Decidable.not_not] at h9
    have hil : i < xs.length := by omega
    have hx : xs[i]? = some (xs.getD i false) := getD_get hil
    refine J.condT rfl rfl ?_
    refine J.skip rfl ?_
    refine J.seq rfl ?_
    refine J.block rfl ?_
    refine J.seq rfl ?_
    refine J.region rfl ?_
    refine JO.pur rfl rfl rfl (Pur.move rfl) ?_
    refine JO.pur rfl rfl rfl (Pur.assign rfl) ?_
    refine JO.nil ?_
    refine J.seq rfl ?_
    refine J.region rfl ?_
    refine JO.pur rfl rfl rfl (Pur.move rfl) ?_
    refine JO.pur rfl rfl rfl (Pur.move rfl) ?_
    refine JO.pur rfl rfl rfl (Pur.move rfl) ?_
    refine JO.pur rfl rfl rfl (Pur.idx rfl rfl rfl (by first | rfl | (simp; done) | omega) rfl hil) ?_
    refine JO.pur rfl rfl rfl (Pur.load rfl (CellIn.el0 rfl hx rfl)) ?_
    refine JO.pur rfl rfl rfl (Pur.eqlB rfl rfl) ?_
    refine JO.nil ?_
    refine J.splitB 16 rfl (fun h16 => ?_) (fun h16 => ?_)
    · try simp only [decide_eq_true_eq, decide_eq_false_iff_not, Bool.not_eq_true', Bool.not_eq_false', Bool.and_eq_true, Bool.or_eq_true, Bool.and_eq_false_iff, Bool.or_eq_false_iff, Option.isNone_some, Option.isSome_some, Option.isNone_none, Option.isSome_none, Int.not_lt, Int.not_le, beq_iff_eq, beq_eq_false_iff_ne, bne_iff_ne, ne_eq, Bool.not_not, Decidable.not_not] at h16
      refine J.condT rfl rfl ?_
      refine J.seq rfl ?_
      refine J.region rfl ?_
      refine JO.pur rfl rfl rfl (Pur.move rfl) ?_
      refine JO.pur rfl rfl rfl (Pur.assign rfl) ?_
      refine JO.nil ?_
      refine J.ret rfl rfl ?_
      refine ⟨_, _, ⟨(i : Int), ⟨fun _ => mem_of_get (by rw [hx, h16]), fun _ => by omega⟩, rfl, rfl⟩, rfl, SubC.out⟩
    · try simp only [decide_eq_true_eq, decide_eq_false_iff_not, Bool.not_eq_true', Bool.not_eq_false', Bool.and_eq_true, Bool.or_eq_true, Bool.and_eq_false_iff, Bool.or_eq_false_iff, Option.isNone_some, Option.isSome_some, Option.isNone_none, Option.isSome_none, Int.not_lt, Int.not_le, beq_iff_eq, beq_eq_false_iff_ne, bne_iff_ne, ne_eq, Bool.not_not, Decidable.not_not] at h16
      refine J.condF rfl rfl ?_
      refine J.skip rfl ?_
      refine J.inBlock ?_
      refine J.region rfl ?_
      refine JO.pur rfl rfl rfl (Pur.add rfl rfl (wr64 (by omega))) ?_
      refine JO.pur rfl rfl rfl (Pur.move rfl) ?_
      refine JO.nil ?_
      exact J.weaken (.cons rfl (congrArg (Value.int .i64) (by omega)) (.cons rfl rfl (.cons rfl rfl (.cons rfl rfl .nil)))) (by first | exact fun _ h => h | exact SubC.out | (dsimp only; exact SubC.out)) (ih0 (i + 1) ⟨by omega, mem_take_succ hx h16 hnb⟩ (by omega))
  · try simp only [decide_eq_true_eq, decide_eq_false_iff_not, Bool.not_eq_true', Bool.not_eq_false', Bool.and_eq_true, Bool.or_eq_true, Bool.and_eq_false_iff, Bool.or_eq_false_iff, Option.isNone_some, Option.isSome_some, Option.isNone_none, Option.isSome_none, Int.not_lt, Int.not_le, beq_iff_eq, beq_eq_false_iff_ne, bne_iff_ne, ne_eq, Bool.not_not, Decidable.not_not] at h9
    refine J.condF rfl rfl ?_
    refine J.exit rfl rfl ?_
    refine J.seq rfl ?_
    refine J.region rfl ?_
    refine JO.pur rfl rfl rfl (Pur.assign rfl) ?_
    refine JO.nil ?_
    refine J.ret rfl rfl ?_
    refine ⟨_, _, ⟨-1, ⟨fun h => by omega, fun h => ?_⟩, rfl, rfl⟩, rfl, SubC.out⟩
    exact absurd (by rw [List.take_of_length_le (by omega)]; exact h) hnb

theorem contains_ok {L : List Asn} {a : Option Addr} {n cp : Nat} {xs : List Bool} {b : Bool} [SlIn boolE L a xs] (hn : n = xs.length) (hb : xs.length ≤ 1000000) :
    CallS Try.prog 58 [.slice a n cp, .bool b].toArray L (fun v M => v = .bool (decide (b ∈ xs)) ∧ M = L) := by
  refine CallS.enter Try.func58 rfl rfl rfl rfl rfl ?_
  refine J.seq rfl ?_
  refine J.region rfl ?_
  refine JO.pur rfl rfl rfl (Pur.assign rfl) ?_
  refine JO.nil ?_
  refine J.seq rfl ?_
  refine J.region rfl ?_
  refine JO.pur rfl rfl rfl (Pur.move rfl) ?_
  refine JO.pur rfl rfl rfl (Pur.move rfl) ?_
  refine JO.eff rfl rfl rfl (Eff.call rfl (index_ok hn hb)) ?_
  rintro _ _ ⟨r, hr, rfl, rfl⟩
  refine JO.pur rfl rfl rfl (Pur.geq rfl rfl) ?_
  refine JO.pur rfl rfl rfl (Pur.assign rfl) ?_
  refine JO.nil ?_
  refine J.ret rfl rfl ?_
  exact ⟨congrArg Value.bool (by rw [decide_eq_decide]; exact hr), rfl⟩

def stepE : Enc (Deed × Nat) := ⟨80, 4, fun p => [.string p.1.act, .string p.1.var, .string p.1.src, .int .i64 (p.2 : Int)], fun _ => rfl, fun s v h => by
  simp only [List.mem_cons, List.not_mem_nil, or_false] at h; rcases h with rfl | rfl | rfl | rfl <;> rfl⟩
def sp (xs : List Deed) (st : List Nat) : List (Deed × Nat) := st.map (fun i => (dd xs i, i))
theorem sp_len (xs : List Deed) (st : List Nat) : (sp xs st).length = st.length := by simp [sp]
theorem sp_snoc (xs : List Deed) (st : List Nat) (i : Nat) : sp xs st ++ [(dd xs i, i)] = sp xs (st ++ [i]) := by simp [sp]
theorem act_eq {W : Ow.Way} : W.active = (decide (W.skipped = 0) && !(decide (false ∈ W.inside.reverse))) := by
  unfold Way.active
  congr 1
  rw [Bool.eq_iff_iff]
  simp only [List.all_eq_true, id, Bool.not_eq_true', decide_eq_false_iff_not, List.mem_reverse]
  exact ⟨fun h h2 => (by have := h _ h2; cases this), fun h x hx => by cases x with | true => rfl | false => exact absurd hx h⟩
theorem wlen {l : List Deed} {c : List Bool} : ∀ {n : Nat}, n ≤ l.length → (wfold l c n).steps.length ≤ n ∧ (wfold l c n).met.length ≤ n ∧ (wfold l c n).inside.length ≤ n ∧ (wfold l c n).skipped ≤ n
  | 0, _ => by simp [wfold]
  | n + 1, h => by
    obtain ⟨h1, h2, h3, h4⟩ := wlen (l := l) (c := c) (n := n) (by omega)
    rw [wfold_succ (by omega)]
    unfold wstep
    split
    · split <;> (simp; omega)
    · split
      · split
        · refine ⟨?_, ?_, ?_, ?_⟩ <;> simp <;> omega
        · omega
      · split
        · split <;> (simp; omega)
        · split
          · simp; omega
          · omega
section
variable {c : List Bool} {W : Ow.Way} {i : Nat} {d : Deed}
theorem w_ei0 (h : d.act = sEither) (h2 : W.active = false) : wstep c W i d = ⟨W.inside, W.skipped + 1, W.steps, W.met⟩ := by unfold wstep; rw [if_pos h, h2]; rfl
theorem w_ei1 (h : d.act = sEither) (h2 : W.active = true) : wstep c W i d = ⟨c.getD W.met.length true :: W.inside, W.skipped, W.steps, W.met ++ [i]⟩ := by unfold wstep; rw [if_pos h, h2]; rfl
theorem w_or1 (h : d.act = sOr) (h0 : ¬ d.act = sEither) (h2 : W.skipped = 0) {b : Bool} {r : List Bool} (h3 : W.inside = b :: r) : wstep c W i d = ⟨(!b) :: r, W.skipped, W.steps, W.met⟩ := by unfold wstep; rw [if_neg h0, if_pos h, if_pos h2, h3]; rfl
theorem w_or0 (h : d.act = sOr) (h0 : ¬ d.act = sEither) (h2 : ¬ W.skipped = 0) : wstep c W i d = W := by unfold wstep; rw [if_neg h0, if_pos h, if_neg h2]
theorem w_en0 (h : d.act = sEnd) (h0 : ¬ d.act = sEither) (h1 : ¬ d.act = sOr) (h2 : ¬ W.skipped = 0) : wstep c W i d = ⟨W.inside, W.skipped - 1, W.steps, W.met⟩ := by unfold wstep; rw [if_neg h0, if_neg h1, if_pos h, if_neg h2]
theorem w_en1 (h : d.act = sEnd) (h0 : ¬ d.act = sEither) (h1 : ¬ d.act = sOr) (h2 : W.skipped = 0) {b : Bool} {r : List Bool} (h3 : W.inside = b :: r) : wstep c W i d = ⟨r, W.skipped, W.steps, W.met⟩ := by unfold wstep; rw [if_neg h0, if_neg h1, if_pos h, if_pos h2, h3]; rfl
theorem w_do1 (h : ¬ d.act = sEnd) (h0 : ¬ d.act = sEither) (h1 : ¬ d.act = sOr) (h2 : W.active = true) : wstep c W i d = ⟨W.inside, W.skipped, W.steps ++ [i], W.met⟩ := by unfold wstep; rw [if_neg h0, if_neg h1, if_neg h, if_pos h2]
theorem w_do0 (h : ¬ d.act = sEnd) (h0 : ¬ d.act = sEither) (h1 : ¬ d.act = sOr) (h2 : W.active = false) : wstep c W i d = W := by unfold wstep; rw [if_neg h0, if_neg h1, if_neg h, h2]; rfl
end
/-- Where an or or an end is met, some choice is open. -/
theorem open_ex {l : List Deed} {c : List Bool} {i : Nat} (hi : i < l.length) (hv : ∃ o, vfold l l.length = some o) (h : (dd l i).act = sOr ∨ (dd l i).act = sEnd) (hs : (wfold l c i).skipped = 0) : ∃ b r, (wfold l c i).inside = b :: r := by
  obtain ⟨o, ho⟩ := hv
  obtain ⟨o1, h1⟩ := vfold_pre (m := i + 1) (by omega) (Nat.le_refl _) ho
  obtain ⟨o0, h2, h3⟩ := vfold_some hi h1
  have h4 := (wfold_inv c (by omega) h2).len
  cases hw : (wfold l c i).inside with
  | cons b r => exact ⟨b, r, rfl⟩
  | nil =>
    exfalso
    rw [hw, hs] at h4
    have : o0 = [] := List.eq_nil_of_length_eq_zero (by simpa using h4)
    subst this
    unfold vstep at h3
    rcases h with h | h
    · rw [h] at h3; rw [if_neg act_ne.1, if_pos rfl] at h3; split at h3 <;> simp at h3
    · rw [h] at h3; rw [if_neg act_ne.2.1, if_neg act_ne.2.2, if_pos rfl] at h3; split at h3 <;> simp at h3
theorem valid_open {l : List Deed} (h : validB l = true) : ∃ o, vfold l l.length = some o := by
  unfold validB at h; simp at h; exact ⟨_, h.1.1⟩
theorem valid_len {l : List Deed} (h : validB l = true) : l.length ≤ 60 := by
  unfold validB at h; simp at h; exact h.2
set_option maxRecDepth 10000 in
theorem way_ok {L : List Asn} {a b : Option Addr} {n cp m cq : Nat} {xs : List Deed} {cs : List Bool} [SlIn deedE L a xs] [SlIn boolE L b cs] (hn : n = xs.length) (hm : m = cs.length) (hb : xs.length ≤ 60) (hv : ∃ o, vfold xs xs.length = some o) :
    CallS Try.prog 47 [.slice a n cp, .slice b m cq].toArray L (fun v M => ∃ a4 c4 a5 c5, v = .tuple #[.slice a4 (wayV xs cs).steps.length c4, .slice a5 (wayV xs cs).met.length c5] ∧ M = sl stepE a4 c4 (sp xs (wayV xs cs).steps) :: sl intE a5 c5 (fz (wayV xs cs).met) :: L) := by
  subst hn
  subst hm
  refine CallS.ent ?_
  refine CallS.enter Try.func47 rfl rfl rfl rfl rfl ?_
  refine J.seq rfl ?_
  refine J.region rfl ?_
  refine JO.pur rfl rfl rfl (Pur.assign rfl) ?_
  refine JO.pur rfl rfl rfl (Pur.assign rfl) ?_
  refine JO.nil ?_
  refine J.seq rfl ?_
  refine J.region rfl ?_
  refine JO.pur rfl rfl rfl (Pur.assign rfl) ?_
  refine JO.nil ?_
  refine J.seq rfl ?_
  refine J.region rfl ?_
  refine JO.pur rfl rfl rfl (Pur.assign rfl) ?_
  refine JO.nil ?_
  refine J.seq rfl ?_
  refine J.seq rfl ?_
  refine J.region rfl ?_
  refine JO.pur rfl rfl rfl (Pur.move rfl) ?_
  refine JO.pur rfl rfl rfl (Pur.len rfl) ?_
  refine JO.pur rfl rfl rfl (Pur.move rfl) ?_
  refine JO.nil ?_
  refine J.block rfl ?_
  refine J.loopF (ι := Nat × Ow.Way × Option Addr × Nat × Option Addr × Nat × Option Addr × Nat) (fun q => q.1 ≤ xs.length ∧ q.2.1 = wfold xs cs q.1) (fun q => [(4, .slice q.2.2.1 q.2.1.steps.length q.2.2.2.1), (5, .slice q.2.2.2.2.1 q.2.1.met.length q.2.2.2.2.2.1), (6, .slice q.2.2.2.2.2.2.1 q.2.1.inside.length q.2.2.2.2.2.2.2), (7, .int .i64 (q.2.1.skipped : Int)), (14, .int .i64 (q.1 : Int))]) [(1, _), (12, _), (13, _)] (fun q => sl stepE q.2.2.1 q.2.2.2.1 (sp xs q.2.1.steps) :: sl intE q.2.2.2.2.1 q.2.2.2.2.2.1 (fz q.2.1.met) :: sl boolE q.2.2.2.2.2.2.1 q.2.2.2.2.2.2.2 q.2.1.inside.reverse :: L) (fun q => xs.length - q.1) (0, ⟨[], 0, [], []⟩, none, 0, none, 0, none, 0) rfl (.cons rfl rfl (.cons rfl rfl (.cons rfl rfl .nil))) (.cons rfl rfl (.cons rfl rfl (.cons rfl rfl (.cons rfl rfl (.cons rfl rfl .nil))))) (fun h s => by dsimp only; rw [List.reverse_nil, show sp xs [] = [] from rfl, show fz [] = [] from rfl]; exact SubC.out h (sl_nil_new (E := stepE) (sl_nil_new (E := intE) (sl_nil_new (E := boolE) s)))) ⟨Nat.zero_le _, rfl⟩ ?_
  rintro ⟨i, W, a4, c4, a5, c5, a6, c6⟩ ⟨hi, hW⟩ ih0
  try dsimp only
  dsimp only at hi hW
  obtain ⟨hw1, hw2, hw3, hw4⟩ : W.steps.length ≤ i ∧ W.met.length ≤ i ∧ W.inside.length ≤ i ∧ W.skipped ≤ i := by rw [hW]; exact wlen hi
  have hspl := sp_len xs W.steps
  have hfzl := fz_len W.met
  have hrvl : W.inside.reverse.length = W.inside.length := by simp
  refine J.seq rfl ?_
  refine J.region rfl ?_
  refine JO.pur rfl rfl rfl (Pur.lss rfl rfl) ?_
  refine JO.nil ?_
  refine J.seq rfl ?_
  refine J.splitB 15 rfl (fun h15 => ?_) (fun h15 => ?_)
  · try simp only [decide_eq_true_eq, decide_eq_false_iff_not, Bool.not_eq_true', Bool.not_eq_false', Bool.and_eq_true, Bool.or_eq_true, Bool.and_eq_false_iff, Bool.or_eq_false_iff, Option.isNone_some, Option.isSome_some, Option.isNone_none, Option.isSome_none, Int.not_lt, Int.not_le, beq_iff_eq, beq_eq_false_iff_ne, bne_iff_ne, ne_eq, Bool.not_not, Decidable.not_not] at h15
    have hil : i < xs.length := by omega
    refine J.condT rfl rfl ?_
    refine J.skip rfl ?_
    refine J.seq rfl ?_
    refine J.block rfl ?_
    refine J.seq rfl ?_
    refine J.region rfl ?_
    refine JO.pur rfl rfl rfl (Pur.move rfl) ?_
    refine JO.pur rfl rfl rfl (Pur.idx rfl rfl rfl (by first | rfl | (simp; done) | omega) rfl hil) ?_
    refine JO.pur rfl rfl rfl (Pur.loadA rfl rfl rfl (CellsIn.el rfl (dd_get hil))) ?_
    refine JO.eff rfl rfl rfl (Eff.alloc (cs := [_, _, _]) rfl) ?_
    rintro _ _ ⟨b9, rfl, rfl⟩
    refine JO.pur rfl rfl rfl (Pur.assign rfl) ?_
    refine JO.effN rfl rfl (Eff.storeBA (cs' := [_, _, _]) rfl rfl (by rfl) (by rfl) (by rfl)) ?_
    rintro _ _ ⟨rfl, rfl⟩
    refine JO.nil ?_
    refine J.seq rfl ?_
    refine J.cut1 (ι := Unit) (fun q => True) (fun q => [(10, .bool W.active)]) [(1, _), (4, _), (5, _), (6, _), (7, _), (8, _), (9, _), (12, _), (13, _), (14, _)] (fun q => blk b9 (.cells #[.string (dd xs i).act, .string (dd xs i).var, .string (dd xs i).src] 46) :: sl stepE a4 c4 (sp xs W.steps) :: sl intE a5 c5 (fz W.met) :: sl boolE a6 c6 W.inside.reverse :: L) (.cons rfl rfl (.cons rfl rfl (.cons rfl rfl (.cons rfl rfl (.cons rfl rfl (.cons rfl rfl (.cons rfl rfl (.cons rfl rfl (.cons rfl rfl (.cons rfl rfl .nil)))))))))) ?_ ?_
    · rintro - -
      try dsimp only
      refine J.seq rfl ?_
      refine J.region rfl ?_
      refine JO.pur rfl rfl rfl (Pur.fieldAddr rfl) ?_
      refine JO.pur rfl rfl rfl (Pur.load rfl (CellIn.blk rfl)) ?_
      refine JO.nil ?_
      refine J.block rfl ?_
      refine J.seq rfl ?_
      refine J.region rfl ?_
      refine JO.pur rfl rfl rfl (Pur.eqlT rfl rfl) ?_
      refine JO.pur rfl rfl rfl (Pur.assign rfl) ?_
      refine JO.nil ?_
      refine J.splitB 35 rfl (fun h35 => ?_) (fun h35 => ?_)
      · try simp only [decide_eq_true_eq, decide_eq_false_iff_not, Bool.not_eq_true', Bool.not_eq_false', Bool.and_eq_true, Bool.or_eq_true, Bool.and_eq_false_iff, Bool.or_eq_false_iff, Option.isNone_some, Option.isSome_some, Option.isNone_none, Option.isSome_none, Int.not_lt, Int.not_le, beq_iff_eq, beq_eq_false_iff_ne, bne_iff_ne, ne_eq, Bool.not_not, Decidable.not_not] at h35
        refine J.condT rfl rfl ?_
        refine J.seq rfl ?_
        refine J.seq rfl ?_
        refine J.region rfl ?_
        refine JO.pur rfl rfl rfl (Pur.move rfl) ?_
        refine JO.pur rfl rfl rfl (Pur.not rfl) ?_
        refine JO.nil ?_
        refine J.splitB 38 rfl (fun h38 => ?_) (fun h38 => ?_)
        · try simp only [decide_eq_true_eq, decide_eq_false_iff_not, Bool.not_eq_true', Bool.not_eq_false', Bool.and_eq_true, Bool.or_eq_true, Bool.and_eq_false_iff, Bool.or_eq_false_iff, Option.isNone_some, Option.isSome_some, Option.isNone_none, Option.isSome_none, Int.not_lt, Int.not_le, beq_iff_eq, beq_eq_false_iff_ne, bne_iff_ne, ne_eq, Bool.not_not, Decidable.not_not] at h38
          have hac : W.active = false := by simpa using h38
          refine J.condT rfl rfl ?_
          refine J.seq rfl ?_
          refine J.region rfl ?_
          refine JO.pur rfl rfl rfl (Pur.move rfl) ?_
          refine JO.pur rfl rfl rfl (Pur.add rfl rfl (wr64 (by omega))) ?_
          refine JO.pur rfl rfl rfl (Pur.assign rfl) ?_
          refine JO.nil ?_
          refine J.exit rfl rfl ?_
          refine J.region rfl ?_
          refine JO.pur rfl rfl rfl (Pur.add rfl rfl (wr64 (by omega))) ?_
          refine JO.pur rfl rfl rfl (Pur.move rfl) ?_
          refine JO.nil ?_
          exact J.weaken (.cons rfl rfl (.cons rfl rfl (.cons rfl rfl (.cons rfl (congrArg (Value.int .i64) (by dsimp only; omega)) (.cons rfl (congrArg (Value.int .i64) (by dsimp only; omega)) (.cons rfl rfl (.cons rfl rfl (.cons rfl rfl .nil)))))))) (fun h s => by dsimp only; exact SubC.out h s) (ih0 (i + 1, ⟨W.inside, W.skipped + 1, W.steps, W.met⟩, a4, c4, a5, c5, a6, c6) ⟨(by dsimp only; omega), (by dsimp only; rw [wfold_succ (by omega), ← hW]; exact (w_ei0 h35 hac).symm)⟩ (by dsimp only; omega))
        · try simp only [decide_eq_true_eq, decide_eq_false_iff_not, Bool.not_eq_true', Bool.not_eq_false', Bool.and_eq_true, Bool.or_eq_true, Bool.and_eq_false_iff, Bool.or_eq_false_iff, Option.isNone_some, Option.isSome_some, Option.isNone_none, Option.isSome_none, Int.not_lt, Int.not_le, beq_iff_eq, beq_eq_false_iff_ne, bne_iff_ne, ne_eq, Bool.not_not, Decidable.not_not] at h38
          have hac : W.active = true := by simpa using h38
          refine J.condF rfl rfl ?_
          refine J.skip rfl ?_
          refine J.seq rfl ?_
          refine J.region rfl ?_
          refine JO.pur rfl rfl rfl (Pur.assign rfl) ?_
          refine JO.nil ?_
          refine J.seq rfl ?_
          refine J.seq rfl ?_
          refine J.region rfl ?_
          refine JO.pur rfl rfl rfl (Pur.move rfl) ?_
          refine JO.pur rfl rfl rfl (Pur.len rfl) ?_
          refine JO.pur rfl rfl rfl (Pur.move rfl) ?_
          refine JO.pur rfl rfl rfl (Pur.len rfl) ?_
          refine JO.pur rfl rfl rfl (Pur.lss rfl rfl) ?_
          refine JO.nil ?_
          refine J.splitB 45 rfl (fun h45 => ?_) (fun h45 => ?_)
          · try simp only [decide_eq_true_eq, decide_eq_false_iff_not, Bool.not_eq_true', Bool.not_eq_false', Bool.and_eq_true, Bool.or_eq_true, Bool.and_eq_false_iff, Bool.or_eq_false_iff, Option.isNone_some, Option.isSome_some, Option.isNone_none, Option.isSome_none, Int.not_lt, Int.not_le, beq_iff_eq, beq_eq_false_iff_ne, bne_iff_ne, ne_eq, Bool.not_not, Decidable.not_not] at h45
            refine J.condT rfl rfl ?_
            refine J.region rfl ?_
            refine JO.pur rfl rfl rfl (Pur.move rfl) ?_
            refine JO.pur rfl rfl rfl (Pur.move rfl) ?_
            refine JO.pur rfl rfl rfl (Pur.len rfl) ?_
            refine JO.pur rfl rfl rfl (Pur.idx rfl rfl rfl (by first | rfl | (simp; done) | omega) rfl (by omega)) ?_
            refine JO.pur rfl rfl rfl (Pur.load rfl (CellIn.el0 rfl (getD_get (d := true) (by omega)) rfl)) ?_
            refine JO.pur rfl rfl rfl (Pur.assign rfl) ?_
            refine JO.nil ?_
            refine J.seq rfl ?_
            refine J.region rfl ?_
            refine JO.pur rfl rfl rfl (Pur.move rfl) ?_
            refine JO.pur rfl rfl rfl (Pur.move rfl) ?_
            refine JO.eff rfl rfl rfl (Eff.buildSlice intE [(i : Int)] rfl rfl rfl rfl rfl rfl rfl) ?_
            rintro _ _ ⟨b53, rfl, -, rfl⟩
            refine JO.eff rfl rfl rfl (Eff.append rfl rfl rfl rfl (by first | rfl | omega | (simp; done) | (simp; omega)) (by first | rfl | omega | (simp; done) | (simp; omega)) (by decide) (by first | omega | (simp only [List.length_cons, List.length_nil]; omega) | (simp; omega)) (by first | omega | (simp only [List.length_cons, List.length_nil]; omega) | (simp; omega)) (fun h => by cases h)) ?_
            rintro _ _ ⟨a54, c54, rfl, rfl⟩
            refine JO.pur rfl rfl rfl (Pur.assign rfl) ?_
            refine JO.nil ?_
            refine J.region rfl ?_
            refine JO.pur rfl rfl rfl (Pur.move rfl) ?_
            refine JO.pur rfl rfl rfl (Pur.move rfl) ?_
            refine JO.eff rfl rfl rfl (Eff.buildSlice boolE [_] rfl rfl rfl rfl rfl rfl rfl) ?_
            rintro _ _ ⟨b57, rfl, -, rfl⟩
            refine JO.eff rfl rfl rfl (Eff.append rfl rfl rfl rfl (by first | rfl | omega | (simp; done) | (simp; omega)) (by first | rfl | omega | (simp; done) | (simp; omega)) (by decide) (by first | omega | (simp only [List.length_cons, List.length_nil]; omega) | (simp; omega)) (by first | omega | (simp only [List.length_cons, List.length_nil]; omega) | (simp; omega)) (fun h => by cases h)) ?_
            rintro _ _ ⟨a58, c58, rfl, rfl⟩
            refine JO.pur rfl rfl rfl (Pur.assign rfl) ?_
            refine JO.nil ?_
            refine J.inBlock ?_
            refine J.inBlock ?_
            refine J.region rfl ?_
            refine JO.pur rfl rfl rfl (Pur.add rfl rfl (wr64 (by omega))) ?_
            refine JO.pur rfl rfl rfl (Pur.move rfl) ?_
            refine JO.nil ?_
            exact J.weaken (.cons rfl rfl (.cons rfl (by dsimp only; rw [List.length_append, hfzl]; rfl) (.cons rfl (by dsimp only; simp) (.cons rfl rfl (.cons rfl (congrArg (Value.int .i64) (by dsimp only; omega)) (.cons rfl rfl (.cons rfl rfl (.cons rfl rfl .nil)))))))) (fun h s => by dsimp only; rw [fz_snoc] at s; rw [List.reverse_cons]; exact SubC.out h s) (ih0 (i + 1, ⟨cs.getD W.met.length true :: W.inside, W.skipped, W.steps, W.met ++ [i]⟩, a4, c4, a54, c54, a58, c58) ⟨(by dsimp only; omega), (by dsimp only; rw [wfold_succ (by omega), ← hW]; exact (w_ei1 h35 hac).symm)⟩ (by dsimp only; omega))
          · try simp only [decide_eq_true_eq, decide_eq_false_iff_not, Bool.not_eq_true', Bool.not_eq_false', Bool.and_eq_true, Bool.or_eq_true, Bool.and_eq_false_iff, Bool.or_eq_false_iff, Option.isNone_some, Option.isSome_some, Option.isNone_none, Option.isSome_none, Int.not_lt, Int.not_le, beq_iff_eq, beq_eq_false_iff_ne, bne_iff_ne, ne_eq, Bool.not_not, Decidable.not_not] at h45
            have hgd : cs.getD W.met.length true = true := by rw [List.getD_eq_getElem?_getD, List.getElem?_eq_none (by omega)]; rfl
            refine J.condF rfl rfl ?_
            refine J.skip rfl ?_
            refine J.seq rfl ?_
            refine J.region rfl ?_
            refine JO.pur rfl rfl rfl (Pur.move rfl) ?_
            refine JO.pur rfl rfl rfl (Pur.move rfl) ?_
            refine JO.eff rfl rfl rfl (Eff.buildSlice intE [(i : Int)] rfl rfl rfl rfl rfl rfl rfl) ?_
            rintro _ _ ⟨b53, rfl, -, rfl⟩
            refine JO.eff rfl rfl rfl (Eff.append rfl rfl rfl rfl (by first | rfl | omega | (simp; done) | (simp; omega)) (by first | rfl | omega | (simp; done) | (simp; omega)) (by decide) (by first | omega | (simp only [List.length_cons, List.length_nil]; omega) | (simp; omega)) (by first | omega | (simp only [List.length_cons, List.length_nil]; omega) | (simp; omega)) (fun h => by cases h)) ?_
            rintro _ _ ⟨a54, c54, rfl, rfl⟩
            refine JO.pur rfl rfl rfl (Pur.assign rfl) ?_
            refine JO.nil ?_
            refine J.region rfl ?_
            refine JO.pur rfl rfl rfl (Pur.move rfl) ?_
            refine JO.pur rfl rfl rfl (Pur.move rfl) ?_
            refine JO.eff rfl rfl rfl (Eff.buildSlice boolE [_] rfl rfl rfl rfl rfl rfl rfl) ?_
            rintro _ _ ⟨b57, rfl, -, rfl⟩
            refine JO.eff rfl rfl rfl (Eff.append rfl rfl rfl rfl (by first | rfl | omega | (simp; done) | (simp; omega)) (by first | rfl | omega | (simp; done) | (simp; omega)) (by decide) (by first | omega | (simp only [List.length_cons, List.length_nil]; omega) | (simp; omega)) (by first | omega | (simp only [List.length_cons, List.length_nil]; omega) | (simp; omega)) (fun h => by cases h)) ?_
            rintro _ _ ⟨a58, c58, rfl, rfl⟩
            refine JO.pur rfl rfl rfl (Pur.assign rfl) ?_
            refine JO.nil ?_
            refine J.inBlock ?_
            refine J.inBlock ?_
            refine J.region rfl ?_
            refine JO.pur rfl rfl rfl (Pur.add rfl rfl (wr64 (by omega))) ?_
            refine JO.pur rfl rfl rfl (Pur.move rfl) ?_
            refine JO.nil ?_
            exact J.weaken (.cons rfl rfl (.cons rfl (by dsimp only; rw [List.length_append, hfzl]; rfl) (.cons rfl (by dsimp only; simp) (.cons rfl rfl (.cons rfl (congrArg (Value.int .i64) (by dsimp only; omega)) (.cons rfl rfl (.cons rfl rfl (.cons rfl rfl .nil)))))))) (fun h s => by dsimp only; rw [fz_snoc] at s; rw [List.reverse_cons]; exact SubC.out h s) (ih0 (i + 1, ⟨true :: W.inside, W.skipped, W.steps, W.met ++ [i]⟩, a4, c4, a54, c54, a58, c58) ⟨(by dsimp only; omega), (by dsimp only; rw [wfold_succ (by omega), ← hW]; exact ((w_ei1 h35 hac).trans (by rw [hgd])).symm)⟩ (by dsimp only; omega))
      · try simp only [decide_eq_true_eq, decide_eq_false_iff_not, Bool.not_eq_true', Bool.not_eq_false', Bool.and_eq_true, Bool.or_eq_true, Bool.and_eq_false_iff, Bool.or_eq_false_iff, Option.isNone_some, Option.isSome_some, Option.isNone_none, Option.isSome_none, Int.not_lt, Int.not_le, beq_iff_eq, beq_eq_false_iff_ne, bne_iff_ne, ne_eq, Bool.not_not, Decidable.not_not] at h35
        refine J.condF rfl rfl ?_
        refine J.seq rfl ?_
        refine J.region rfl ?_
        refine JO.pur rfl rfl rfl (Pur.eqlT rfl rfl) ?_
        refine JO.pur rfl rfl rfl (Pur.assign rfl) ?_
        refine JO.nil ?_
        refine J.splitB 59 rfl (fun h59 => ?_) (fun h59 => ?_)
        · try simp only [decide_eq_true_eq, decide_eq_false_iff_not, Bool.not_eq_true', Bool.not_eq_false', Bool.and_eq_true, Bool.or_eq_true, Bool.and_eq_false_iff, Bool.or_eq_false_iff, Option.isNone_some, Option.isSome_some, Option.isNone_none, Option.isSome_none, Int.not_lt, Int.not_le, beq_iff_eq, beq_eq_false_iff_ne, bne_iff_ne, ne_eq, Bool.not_not, Decidable.not_not] at h59
          refine J.condT rfl rfl ?_
          refine J.seq rfl ?_
          refine J.region rfl ?_
          refine JO.pur rfl rfl rfl (Pur.move rfl) ?_
          refine JO.pur rfl rfl rfl (Pur.eqlI rfl rfl) ?_
          refine JO.nil ?_
          refine J.splitB 62 rfl (fun h62 => ?_) (fun h62 => ?_)
          · try simp only [decide_eq_true_eq, decide_eq_false_iff_not, Bool.not_eq_true', Bool.not_eq_false', Bool.and_eq_true, Bool.or_eq_true, Bool.and_eq_false_iff, Bool.or_eq_false_iff, Option.isNone_some, Option.isSome_some, Option.isNone_none, Option.isSome_none, Int.not_lt, Int.not_le, beq_iff_eq, beq_eq_false_iff_ne, bne_iff_ne, ne_eq, Bool.not_not, Decidable.not_not] at h62
            have hsk : W.skipped = 0 := by omega
            obtain ⟨b0, r, hbr⟩ : ∃ b r, W.inside = b :: r := by rw [hW] at hsk ⊢; exact open_ex hil hv (.inl h59) hsk
            have hrl : W.inside.reverse.length = W.inside.length := by simp
            have hil0 : 0 < W.inside.length := by rw [hbr]; simp
            have ho1 : ((W.inside.length : Int) - 1) = ((W.inside.length - 1 : Nat) : Int) := by omega
            have hlast := rev_last hbr
            refine J.condT rfl rfl ?_
            refine J.region rfl ?_
            refine JO.pur rfl rfl rfl (Pur.move rfl) ?_
            refine JO.pur rfl rfl rfl (Pur.move rfl) ?_
            refine JO.pur rfl rfl rfl (Pur.len rfl) ?_
            refine JO.pur rfl rfl rfl (Pur.sub rfl rfl (wr64 (by omega))) ?_
            refine JO.pur rfl rfl rfl (Pur.move rfl) ?_
            refine JO.pur rfl rfl rfl (Pur.move rfl) ?_
            refine JO.pur rfl rfl rfl (Pur.len rfl) ?_
            refine JO.pur rfl rfl rfl (Pur.sub rfl rfl (wr64 (by omega))) ?_
            refine JO.pur rfl rfl rfl (Pur.idx rfl rfl rfl (by first | rfl | (simp; done) | omega) ho1 (by omega)) ?_
            refine JO.pur rfl rfl rfl (Pur.load rfl (CellIn.el0 rfl hlast rfl)) ?_
            refine JO.pur rfl rfl rfl (Pur.not rfl) ?_
            refine JO.pur rfl rfl rfl (Pur.idx rfl rfl rfl (by first | rfl | (simp; done) | omega) ho1 (by omega)) ?_
            refine JO.effN rfl rfl (Eff.storeS0 (E := boolE) (z' := (!b0)) rfl rfl rfl rfl hlast .head) ?_
            rintro _ _ ⟨rfl, rfl⟩
            refine JO.nil ?_
            refine J.inBlock ?_
            refine J.inBlock ?_
            refine J.region rfl ?_
            refine JO.pur rfl rfl rfl (Pur.add rfl rfl (wr64 (by omega))) ?_
            refine JO.pur rfl rfl rfl (Pur.move rfl) ?_
            refine JO.nil ?_
            exact J.weaken (.cons rfl rfl (.cons rfl rfl (.cons rfl (by dsimp only; rw [hbr]; rfl) (.cons rfl rfl (.cons rfl (congrArg (Value.int .i64) (by dsimp only; omega)) (.cons rfl rfl (.cons rfl rfl (.cons rfl rfl .nil)))))))) (fun h s => by dsimp only; rw [rev_set hbr] at s; exact SubC.out h s) (ih0 (i + 1, ⟨(!b0) :: r, W.skipped, W.steps, W.met⟩, a4, c4, a5, c5, a6, c6) ⟨(by dsimp only; omega), (by dsimp only; rw [wfold_succ (by omega), ← hW]; exact (w_or1 h59 h35 hsk hbr).symm)⟩ (by dsimp only; omega))
          · try simp only [decide_eq_true_eq, decide_eq_false_iff_not, Bool.not_eq_true', Bool.not_eq_false', Bool.and_eq_true, Bool.or_eq_true, Bool.and_eq_false_iff, Bool.or_eq_false_iff, Option.isNone_some, Option.isSome_some, Option.isNone_none, Option.isSome_none, Int.not_lt, Int.not_le, beq_iff_eq, beq_eq_false_iff_ne, bne_iff_ne, ne_eq, Bool.not_not, Decidable.not_not] at h62
            have hsk : ¬ W.skipped = 0 := by omega
            refine J.condF rfl rfl ?_
            refine J.skip rfl ?_
            refine J.inBlock ?_
            refine J.inBlock ?_
            refine J.region rfl ?_
            refine JO.pur rfl rfl rfl (Pur.add rfl rfl (wr64 (by omega))) ?_
            refine JO.pur rfl rfl rfl (Pur.move rfl) ?_
            refine JO.nil ?_
            exact J.weaken (.cons rfl rfl (.cons rfl rfl (.cons rfl rfl (.cons rfl rfl (.cons rfl (congrArg (Value.int .i64) (by dsimp only; omega)) (.cons rfl rfl (.cons rfl rfl (.cons rfl rfl .nil)))))))) (fun h s => by dsimp only; exact SubC.out h s) (ih0 (i + 1, W, a4, c4, a5, c5, a6, c6) ⟨(by dsimp only; omega), (by dsimp only; rw [wfold_succ (by omega), ← hW]; exact (w_or0 h59 h35 hsk).symm)⟩ (by dsimp only; omega))
        · try simp only [decide_eq_true_eq, decide_eq_false_iff_not, Bool.not_eq_true', Bool.not_eq_false', Bool.and_eq_true, Bool.or_eq_true, Bool.and_eq_false_iff, Bool.or_eq_false_iff, Option.isNone_some, Option.isSome_some, Option.isNone_none, Option.isSome_none, Int.not_lt, Int.not_le, beq_iff_eq, beq_eq_false_iff_ne, bne_iff_ne, ne_eq, Bool.not_not, Decidable.not_not] at h59
          refine J.condF rfl rfl ?_
          refine J.seq rfl ?_
          refine J.region rfl ?_
          refine JO.pur rfl rfl rfl (Pur.eqlT rfl rfl) ?_
          refine JO.pur rfl rfl rfl (Pur.assign rfl) ?_
          refine JO.nil ?_
          refine J.splitB 75 rfl (fun h75 => ?_) (fun h75 => ?_)
          · try simp only [decide_eq_true_eq, decide_eq_false_iff_not, Bool.not_eq_true', Bool.not_eq_false', Bool.and_eq_true, Bool.or_eq_true, Bool.and_eq_false_iff, Bool.or_eq_false_iff, Option.isNone_some, Option.isSome_some, Option.isNone_none, Option.isSome_none, Int.not_lt, Int.not_le, beq_iff_eq, beq_eq_false_iff_ne, bne_iff_ne, ne_eq, Bool.not_not, Decidable.not_not] at h75
            refine J.condT rfl rfl ?_
            refine J.seq rfl ?_
            refine J.seq rfl ?_
            refine J.region rfl ?_
            refine JO.pur rfl rfl rfl (Pur.move rfl) ?_
            refine JO.pur rfl rfl rfl (Pur.gtr rfl rfl) ?_
            refine JO.nil ?_
            refine J.splitB 78 rfl (fun h78 => ?_) (fun h78 => ?_)
            · try simp only [decide_eq_true_eq, decide_eq_false_iff_not, Bool.not_eq_true', Bool.not_eq_false', Bool.and_eq_true, Bool.or_eq_true, Bool.and_eq_false_iff, Bool.or_eq_false_iff, Option.isNone_some, Option.isSome_some, Option.isNone_none, Option.isSome_none, Int.not_lt, Int.not_le, beq_iff_eq, beq_eq_false_iff_ne, bne_iff_ne, ne_eq, Bool.not_not, Decidable.not_not] at h78
              have hsk : ¬ W.skipped = 0 := by omega
              refine J.condT rfl rfl ?_
              refine J.seq rfl ?_
              refine J.region rfl ?_
              refine JO.pur rfl rfl rfl (Pur.move rfl) ?_
              refine JO.pur rfl rfl rfl (Pur.sub rfl rfl (wr64 (by omega))) ?_
              refine JO.pur rfl rfl rfl (Pur.assign rfl) ?_
              refine JO.nil ?_
              refine J.exit rfl rfl ?_
              refine J.region rfl ?_
              refine JO.pur rfl rfl rfl (Pur.add rfl rfl (wr64 (by omega))) ?_
              refine JO.pur rfl rfl rfl (Pur.move rfl) ?_
              refine JO.nil ?_
              exact J.weaken (.cons rfl rfl (.cons rfl rfl (.cons rfl rfl (.cons rfl (congrArg (Value.int .i64) (by dsimp only; omega)) (.cons rfl (congrArg (Value.int .i64) (by dsimp only; omega)) (.cons rfl rfl (.cons rfl rfl (.cons rfl rfl .nil)))))))) (fun h s => by dsimp only; exact SubC.out h s) (ih0 (i + 1, ⟨W.inside, W.skipped - 1, W.steps, W.met⟩, a4, c4, a5, c5, a6, c6) ⟨(by dsimp only; omega), (by dsimp only; rw [wfold_succ (by omega), ← hW]; exact (w_en0 h75 h35 h59 hsk).symm)⟩ (by dsimp only; omega))
            · try simp only [decide_eq_true_eq, decide_eq_false_iff_not, Bool.not_eq_true', Bool.not_eq_false', Bool.and_eq_true, Bool.or_eq_true, Bool.and_eq_false_iff, Bool.or_eq_false_iff, Option.isNone_some, Option.isSome_some, Option.isNone_none, Option.isSome_none, Int.not_lt, Int.not_le, beq_iff_eq, beq_eq_false_iff_ne, bne_iff_ne, ne_eq, Bool.not_not, Decidable.not_not] at h78
              have hsk : W.skipped = 0 := by omega
              obtain ⟨b0, r, hbr⟩ : ∃ b r, W.inside = b :: r := by rw [hW] at hsk ⊢; exact open_ex hil hv (.inr h75) hsk
              have hrl : W.inside.reverse.length = W.inside.length := by simp
              have hil0 : 0 < W.inside.length := by rw [hbr]; simp
              have ho1 : ((W.inside.length : Int) - 1) = ((W.inside.length - 1 : Nat) : Int) := by omega
              have hlast := rev_last hbr
              refine J.condF rfl rfl ?_
              refine J.skip rfl ?_
              refine J.region rfl ?_
              refine JO.pur rfl rfl rfl (Pur.move rfl) ?_
              refine JO.pur rfl rfl rfl (Pur.move rfl) ?_
              refine JO.pur rfl rfl rfl (Pur.len rfl) ?_
              refine JO.pur rfl rfl rfl (Pur.sub rfl rfl (wr64 (by omega))) ?_
              refine JO.fact (fun h hs => SlH.le (a := a6) hs) fun hle6 => ?_
              refine JO.pur rfl rfl rfl (Pur.slice0 rfl rfl ho1 (by omega)) ?_
              refine JO.pur rfl rfl rfl (Pur.assign rfl) ?_
              refine JO.nil ?_
              refine J.inBlock ?_
              refine J.inBlock ?_
              refine J.region rfl ?_
              refine JO.pur rfl rfl rfl (Pur.add rfl rfl (wr64 (by omega))) ?_
              refine JO.pur rfl rfl rfl (Pur.move rfl) ?_
              refine JO.nil ?_
              exact J.weaken (.cons rfl rfl (.cons rfl rfl (.cons rfl (by dsimp only; rw [hbr]; simp) (.cons rfl rfl (.cons rfl (congrArg (Value.int .i64) (by dsimp only; omega)) (.cons rfl rfl (.cons rfl rfl (.cons rfl rfl .nil)))))))) (fun h s => by dsimp only; rw [← rev_take hbr]; exact SubC.out h (cut_sl (a := a6) (cap := c6) (E := boolE) (W.inside.length - 1) s)) (ih0 (i + 1, ⟨r, W.skipped, W.steps, W.met⟩, a4, c4, a5, c5, a6, c6) ⟨(by dsimp only; omega), (by dsimp only; rw [wfold_succ (by omega), ← hW]; exact (w_en1 h75 h35 h59 hsk hbr).symm)⟩ (by dsimp only; omega))
          · try simp only [decide_eq_true_eq, decide_eq_false_iff_not, Bool.not_eq_true', Bool.not_eq_false', Bool.and_eq_true, Bool.or_eq_true, Bool.and_eq_false_iff, Bool.or_eq_false_iff, Option.isNone_some, Option.isSome_some, Option.isNone_none, Option.isSome_none, Int.not_lt, Int.not_le, beq_iff_eq, beq_eq_false_iff_ne, bne_iff_ne, ne_eq, Bool.not_not, Decidable.not_not] at h75
            refine J.condF rfl rfl ?_
            refine J.seq rfl ?_
            refine J.region rfl ?_
            refine JO.pur rfl rfl rfl (Pur.move rfl) ?_
            refine JO.nil ?_
            refine J.splitB 28 rfl (fun h28 => ?_) (fun h28 => ?_)
            · try simp only [decide_eq_true_eq, decide_eq_false_iff_not, Bool.not_eq_true', Bool.not_eq_false', Bool.and_eq_true, Bool.or_eq_true, Bool.and_eq_false_iff, Bool.or_eq_false_iff, Option.isNone_some, Option.isSome_some, Option.isNone_none, Option.isSome_none, Int.not_lt, Int.not_le, beq_iff_eq, beq_eq_false_iff_ne, bne_iff_ne, ne_eq, Bool.not_not, Decidable.not_not] at h28
              have hac : W.active = true := by simpa using h28
              refine J.condT rfl rfl ?_
              refine J.region rfl ?_
              refine JO.pur rfl rfl rfl (Pur.move rfl) ?_
              refine JO.pur rfl rfl rfl (Pur.loadA rfl rfl rfl CellsIn.blk) ?_
              refine JO.pur rfl rfl rfl (Pur.move rfl) ?_
              refine JO.pur rfl rfl rfl (Pur.build (cs := [_, _, _, _]) rfl rfl) ?_
              refine JO.eff rfl rfl rfl (Eff.buildSlice stepE [(dd xs i, i)] rfl rfl rfl rfl rfl rfl rfl) ?_
              rintro _ _ ⟨b33, rfl, -, rfl⟩
              refine JO.eff rfl rfl rfl (Eff.append rfl rfl rfl rfl (by first | rfl | omega | (simp; done) | (simp; omega)) (by first | rfl | omega | (simp; done) | (simp; omega)) (by decide) (by first | omega | (simp only [List.length_cons, List.length_nil]; omega) | (simp; omega)) (by first | omega | (simp only [List.length_cons, List.length_nil]; omega) | (simp; omega)) (fun h => by cases h)) ?_
              rintro _ _ ⟨a34, c34, rfl, rfl⟩
              refine JO.pur rfl rfl rfl (Pur.assign rfl) ?_
              refine JO.nil ?_
              refine J.inBlock ?_
              refine J.inBlock ?_
              refine J.region rfl ?_
              refine JO.pur rfl rfl rfl (Pur.add rfl rfl (wr64 (by omega))) ?_
              refine JO.pur rfl rfl rfl (Pur.move rfl) ?_
              refine JO.nil ?_
              exact J.weaken (.cons rfl (by dsimp only; rw [List.length_append, hspl]; rfl) (.cons rfl rfl (.cons rfl rfl (.cons rfl rfl (.cons rfl (congrArg (Value.int .i64) (by dsimp only; omega)) (.cons rfl rfl (.cons rfl rfl (.cons rfl rfl .nil)))))))) (fun h s => by dsimp only; rw [sp_snoc] at s; exact SubC.out h s) (ih0 (i + 1, ⟨W.inside, W.skipped, W.steps ++ [i], W.met⟩, a34, c34, a5, c5, a6, c6) ⟨(by dsimp only; omega), (by dsimp only; rw [wfold_succ (by omega), ← hW]; exact (w_do1 h75 h35 h59 hac).symm)⟩ (by dsimp only; omega))
            · try simp only [decide_eq_true_eq, decide_eq_false_iff_not, Bool.not_eq_true', Bool.not_eq_false', Bool.and_eq_true, Bool.or_eq_true, Bool.and_eq_false_iff, Bool.or_eq_false_iff, Option.isNone_some, Option.isSome_some, Option.isNone_none, Option.isSome_none, Int.not_lt, Int.not_le, beq_iff_eq, beq_eq_false_iff_ne, bne_iff_ne, ne_eq, Bool.not_not, Decidable.not_not] at h28
              have hac : W.active = false := by simpa using h28
              refine J.condF rfl rfl ?_
              refine J.skip rfl ?_
              refine J.inBlock ?_
              refine J.inBlock ?_
              refine J.region rfl ?_
              refine JO.pur rfl rfl rfl (Pur.add rfl rfl (wr64 (by omega))) ?_
              refine JO.pur rfl rfl rfl (Pur.move rfl) ?_
              refine JO.nil ?_
              exact J.weaken (.cons rfl rfl (.cons rfl rfl (.cons rfl rfl (.cons rfl rfl (.cons rfl (congrArg (Value.int .i64) (by dsimp only; omega)) (.cons rfl rfl (.cons rfl rfl (.cons rfl rfl .nil)))))))) (fun h s => by dsimp only; exact SubC.out h s) (ih0 (i + 1, W, a4, c4, a5, c5, a6, c6) ⟨(by dsimp only; omega), (by dsimp only; rw [wfold_succ (by omega), ← hW]; exact (w_do0 h75 h35 h59 hac).symm)⟩ (by dsimp only; omega))
    · intro cuta6
      refine J.region rfl ?_
      refine JO.pur rfl rfl rfl (Pur.move rfl) ?_
      refine JO.pur rfl rfl rfl (Pur.eqlI rfl rfl) ?_
      refine JO.pur rfl rfl rfl (Pur.move rfl) ?_
      refine JO.splitB 21 rfl (fun h21 => ?_) (fun h21 => ?_)
      · try simp only [decide_eq_true_eq, decide_eq_false_iff_not, Bool.not_eq_true', Bool.not_eq_false', Bool.and_eq_true, Bool.or_eq_true, Bool.and_eq_false_iff, Bool.or_eq_false_iff, Option.isNone_some, Option.isSome_some, Option.isNone_none, Option.isSome_none, Int.not_lt, Int.not_le, beq_iff_eq, beq_eq_false_iff_ne, bne_iff_ne, ne_eq, Bool.not_not, Decidable.not_not] at h21
        refine JO.pur rfl rfl rfl (Pur.move rfl) ?_
        refine JO.effR rfl rfl rfl (Eff.call rfl (contains_ok (xs := W.inside.reverse) (by simp) (by simp; omega))) ?_
        refine JO.pur rfl rfl rfl (Pur.not rfl) ?_
        refine JO.pur rfl rfl rfl (Pur.pickT rfl rfl) ?_
        refine JO.pur rfl rfl rfl (Pur.assign rfl) ?_
        refine JO.nil ?_
        exact J.weaken (.cons rfl (congrArg Value.bool (by rw [act_eq]; first | (rw [decide_eq_true (show W.skipped = 0 by omega)]; rfl) | (rw [decide_eq_false (show ¬ W.skipped = 0 by omega)]; rfl))) (.cons rfl rfl (.cons rfl rfl (.cons rfl rfl (.cons rfl rfl (.cons rfl rfl (.cons rfl rfl (.cons rfl rfl (.cons rfl rfl (.cons rfl rfl (.cons rfl rfl .nil))))))))))) (by first | exact fun _ h => h | exact SubC.out | (dsimp only; exact SubC.out)) (cuta6 () trivial)
      · try simp only [decide_eq_true_eq, decide_eq_false_iff_not, Bool.not_eq_true', Bool.not_eq_false', Bool.and_eq_true, Bool.or_eq_true, Bool.and_eq_false_iff, Bool.or_eq_false_iff, Option.isNone_some, Option.isSome_some, Option.isNone_none, Option.isSome_none, Int.not_lt, Int.not_le, beq_iff_eq, beq_eq_false_iff_ne, bne_iff_ne, ne_eq, Bool.not_not, Decidable.not_not] at h21
        refine JO.no rfl rfl rfl ?_
        refine JO.no rfl rfl rfl ?_
        refine JO.no rfl rfl rfl ?_
        refine JO.pur rfl rfl rfl (Pur.pickF rfl rfl) ?_
        refine JO.pur rfl rfl rfl (Pur.assign rfl) ?_
        refine JO.nil ?_
        exact J.weaken (.cons rfl (congrArg Value.bool (by rw [act_eq]; first | (rw [decide_eq_true (show W.skipped = 0 by omega)]; rfl) | (rw [decide_eq_false (show ¬ W.skipped = 0 by omega)]; rfl))) (.cons rfl rfl (.cons rfl rfl (.cons rfl rfl (.cons rfl rfl (.cons rfl rfl (.cons rfl rfl (.cons rfl rfl (.cons rfl rfl (.cons rfl rfl (.cons rfl rfl .nil))))))))))) (by first | exact fun _ h => h | exact SubC.out | (dsimp only; exact SubC.out)) (cuta6 () trivial)
  · try simp only [decide_eq_true_eq, decide_eq_false_iff_not, Bool.not_eq_true', Bool.not_eq_false', Bool.and_eq_true, Bool.or_eq_true, Bool.and_eq_false_iff, Bool.or_eq_false_iff, Option.isNone_some, Option.isSome_some, Option.isNone_none, Option.isSome_none, Int.not_lt, Int.not_le, beq_iff_eq, beq_eq_false_iff_ne, bne_iff_ne, ne_eq, Bool.not_not, Decidable.not_not] at h15
    refine J.condF rfl rfl ?_
    refine J.exit rfl rfl ?_
    refine J.seq rfl ?_
    refine J.region rfl ?_
    refine JO.pur rfl rfl rfl (Pur.move rfl) ?_
    refine JO.pur rfl rfl rfl (Pur.move rfl) ?_
    refine JO.pur rfl rfl rfl (Pur.assign rfl) ?_
    refine JO.pur rfl rfl rfl (Pur.assign rfl) ?_
    refine JO.nil ?_
    refine J.ret rfl rfl ?_
    obtain rfl : i = xs.length := by omega
    subst hW
    exact ⟨_, _, ⟨a4, c4, a5, c5, rfl, rfl⟩, rfl, fun h s => by unfold wayV; exact SubC.out h s⟩

end Go.Proofs.Ythdaopmfgmojnaa
