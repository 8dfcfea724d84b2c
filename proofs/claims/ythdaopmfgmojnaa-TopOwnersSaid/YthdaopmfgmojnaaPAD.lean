/-
  A part of the proof of the claim that this folder bears.
-/
import Derived.Test.YthdaopmfgmojnaaPAC
/- The text OValid. -/
set_option linter.unusedVariables false
set_option linter.unusedSimpArgs false
namespace Go.Proofs.Ythdaopmfgmojnaa
open Go Go.KK Ow

theorem getD_get {α : Type} {l : List α} {i : Nat} {d : α} (h : i < l.length) : l[i]? = some (l.getD i d) := by simp [List.getD_eq_getElem?_getD, List.getElem?_eq_getElem h]
theorem vnone_mono {l : List Deed} {n : Nat} (h : vfold l n = none) : ∀ {m : Nat}, n ≤ m → vfold l m = none
  | 0, hm => by have : n = 0 := by omega
                subst this; exact h
  | m + 1, hm => by
    by_cases e : n = m + 1
    · subst e; exact h
    · simp only [vfold, vnone_mono h (show n ≤ m by omega)]
theorem valid_no {l : List Deed} {n : Nat} (hn : n ≤ l.length) (h : vfold l n = none) : validB l = false := by
  unfold validB; rw [vnone_mono h hn]; rfl
theorem eith_next {l : List Deed} {n : Nat} (h : n < l.length) : eithers (l.take (n + 1)) = eithers (l.take n) + if (dd l n).act = sEither then 1 else 0 := by
  unfold eithers
  rw [List.take_succ_eq_append_getElem h, List.filter_append, List.length_append, dd_el h]
  by_cases hh : (dd l n).act = sEither <;> simp [hh]
theorem eith_le (l : List Deed) (n : Nat) : eithers (l.take n) ≤ n := by
  unfold eithers; have := List.length_filter_le (fun d : Deed => decide (d.act = sEither)) (l.take n); rw [List.length_take] at this; omega
theorem vlen {l : List Deed} : ∀ {n : Nat} {o : List Bool}, n ≤ l.length → vfold l n = some o → o.length ≤ n
  | 0, o, _, h => by cases h; simp
  | n + 1, o, hn, h => by
    obtain ⟨o0, h1, h2⟩ := vfold_some (by omega) h
    have := vlen (by omega) h1
    unfold vstep at h2
    split at h2
    · cases h2
    · split at h2
      · cases h2; simp; omega
      · split at h2
        · split at h2
          · cases h2; simp at this ⊢; omega
          · cases h2
        · split at h2
          · split at h2
            · cases h2; simp at this ⊢; omega
            · cases h2
          · cases h2; omega
theorem rev_last {o : List Bool} {b : Bool} {r : List Bool} (h : o = b :: r) : o.reverse[o.length - 1]? = some b := by
  subst h
  simp only [List.reverse_cons, List.length_cons, Nat.add_sub_cancel]
  rw [List.getElem?_append_right (by simp)]; simp
theorem rev_set {o : List Bool} {b c : Bool} {r : List Bool} (h : o = b :: r) : o.reverse.set (o.length - 1) c = (c :: r).reverse := by
  subst h
  simp only [List.reverse_cons, List.length_cons, Nat.add_sub_cancel]
  rw [List.set_append_right _ _ (by simp)]; simp
theorem rev_take {o : List Bool} {b : Bool} {r : List Bool} (h : o = b :: r) : o.reverse.take (o.length - 1) = r.reverse := by
  subst h
  simp only [List.reverse_cons, List.length_cons, Nat.add_sub_cancel]
  rw [List.take_append_of_le_length (by simp), List.take_of_length_le (by simp)]
theorem ok_v {d : Deed} (h : deedOk d = false) (o : List Bool) : vstep o d = none := by unfold vstep; rw [if_pos h]
theorem v_either {d : Deed} (h : deedOk d = true) (h1 : d.act = sEither) (o : List Bool) : vstep o d = some (false :: o) := by unfold vstep; rw [if_neg (by rw [h]; simp), if_pos h1]
def orS (o : List Bool) : Option (List Bool) := match o with | false :: r => some (true :: r) | _ => none
def endS (o : List Bool) : Option (List Bool) := match o with | true :: r => some r | _ => none
theorem v_or {d : Deed} (h : deedOk d = true) (h1 : d.act = sOr) (o : List Bool) : vstep o d = orS o := by
  unfold vstep orS; rw [if_neg (by rw [h]; simp), if_neg (by rw [h1]; decide), if_pos h1]; cases o with | nil => rfl | cons b r => cases b <;> rfl
theorem v_end {d : Deed} (h : deedOk d = true) (h1 : d.act = sEnd) (o : List Bool) : vstep o d = endS o := by
  unfold vstep endS; rw [if_neg (by rw [h]; simp), if_neg (by rw [h1]; decide), if_neg (by rw [h1]; decide), if_pos h1]; cases o with | nil => rfl | cons b r => cases b <;> rfl
theorem v_else {d : Deed} (h : deedOk d = true) (h1 : d.act ≠ sEither) (h2 : d.act ≠ sOr) (h3 : d.act ≠ sEnd) (o : List Bool) : vstep o d = some o := by
  unfold vstep; rw [if_neg (by rw [h]; simp), if_neg h1, if_neg h2, if_neg h3]
theorem nb1 {v : Bool} {s : Str} (h : ¬ v = isVarB s) : nameOk v s = false := by
  unfold nameOk
  cases v with
  | true => cases hb : isVarB s with
    | false => rfl
    | true => exact absurd hb.symm h
  | false =>
    have hb : isVarB s = true := by cases hb : isVarB s with
      | true => rfl
      | false => exact absurd hb.symm h
    show decide (s = sNone) = false
    rw [decide_eq_false_iff_not]
    rintro rfl
    exact absurd hb (by decide)
theorem nb2 {v : Bool} {s : Str} (h : v = false) (h2 : ¬ s = sNone) : nameOk v s = false := by
  subst h; exact decide_eq_false h2
theorem ng {v : Bool} {s : Str} (h : v = isVarB s) (h2 : v = true ∨ s = sNone) : nameOk v s = true := by
  unfold nameOk
  cases v with
  | true => exact h.symm
  | false => rcases h2 with h2 | h2
             · cases h2
             · exact decide_eq_true h2
theorem deed_need (d : Deed) : deedOk d = ((needV d.act).2.2 && nameOk (needV d.act).1 d.var && nameOk (needV d.act).2.1 d.src) := by
  unfold deedOk needV; cases need d.act with
  | none => rfl
  | some p => obtain ⟨v, f⟩ := p; rfl

set_option maxRecDepth 10000 in
theorem valid_ok {L : List Asn} {b : Option Addr} {n cp : Nat} {xs : List Deed} [SlIn deedE L b xs] (hn : n = xs.length) (hb : xs.length ≤ 3000000000000) :
    CallS Try.prog 13 [.slice b n cp].toArray L (fun v M => v = .bool (validB xs) ∧ M = L) := by
  subst hn
  refine CallS.ent ?_
  refine CallS.enter Try.func13 rfl rfl rfl rfl rfl ?_
  refine J.seq rfl ?_
  refine J.region rfl ?_
  refine JO.pur rfl rfl rfl (Pur.assign rfl) ?_
  refine JO.nil ?_
  refine J.seq rfl ?_
  refine J.region rfl ?_
  refine JO.pur rfl rfl rfl (Pur.assign rfl) ?_
  refine JO.nil ?_
  refine J.seq rfl ?_
  refine J.region rfl ?_
  refine JO.pur rfl rfl rfl (Pur.assign rfl) ?_
  refine JO.nil ?_
  refine J.seq rfl ?_
  refine J.seq rfl ?_
  refine J.region rfl ?_
  refine JO.pur rfl rfl rfl (Pur.move rfl) ?_
  refine JO.pur rfl rfl rfl (Pur.len rfl) ?_
  refine JO.pur rfl rfl rfl (Pur.move rfl) ?_
  refine JO.nil ?_
  refine J.block rfl ?_
  refine J.loopF (ι := Nat × Option Addr × Nat × List Bool) (fun q => q.1 ≤ xs.length ∧ vfold xs q.1 = some q.2.2.2) (fun q => [(3, .slice q.2.1 q.2.2.2.length q.2.2.1), (4, .int .i64 (eithers (xs.take q.1) : Nat)), (13, .int .i64 (q.1 : Int))]) [(0, _), (11, _), (12, _)] (fun q => sl boolE q.2.1 q.2.2.1 q.2.2.2.reverse :: L) (fun q => xs.length - q.1) (0, none, 0, []) rfl (.cons rfl rfl (.cons rfl rfl (.cons rfl rfl .nil))) (.cons rfl rfl (.cons rfl rfl (.cons rfl rfl .nil))) (fun h s => by dsimp only; rw [List.reverse_nil]; exact SubC.out h (sl_nil_new (E := boolE) s)) ⟨Nat.zero_le _, rfl⟩ ?_
  rintro ⟨i, a3, c3, o⟩ ⟨hi, hvo⟩ ih0
  try dsimp only
  dsimp only at hi hvo
  have hel := eith_le xs i
  have hol := vlen hi hvo
  refine J.seq rfl ?_
  refine J.region rfl ?_
  refine JO.pur rfl rfl rfl (Pur.lss rfl rfl) ?_
  refine JO.nil ?_
  refine J.seq rfl ?_
  refine J.splitB 14 rfl (fun h14 => ?_) (fun h14 => ?_)
  · try simp only [decide_eq_true_eq, decide_eq_false_iff_not, Bool.not_eq_true', Bool.not_eq_false', Bool.and_eq_true, Bool.or_eq_true, Bool.and_eq_false_iff, Bool.or_eq_false_iff, Option.isNone_some, Option.isSome_some, Option.isNone_none, Option.isSome_none, Int.not_lt, Int.not_le, beq_iff_eq, beq_eq_false_iff_ne, bne_iff_ne, ne_eq, Bool.not_not, Decidable.not_not] at h14
    refine J.condT rfl rfl ?_
    refine J.skip rfl ?_
    refine J.seq rfl ?_
    refine J.block rfl ?_
    refine J.seq rfl ?_
    refine J.region rfl ?_
    refine JO.pur rfl rfl rfl (Pur.idx rfl rfl rfl (by first | rfl | (simp; done) | omega) (by first | rfl | exact (Int.toNat_of_nonneg (by omega)).symm) (by first | omega | (simp only [List.length_map]; omega) | (simp; omega))) ?_
    refine JO.pur rfl rfl rfl (Pur.loadA rfl rfl rfl (CellsIn.el rfl (dd_get (by omega)))) ?_
    refine JO.eff rfl rfl rfl (Eff.alloc (cs := [_, _, _]) rfl) ?_
    rintro _ _ ⟨b6, rfl, rfl⟩
    refine JO.effN rfl rfl (Eff.storeBA (cs' := [_, _, _]) rfl rfl (by rfl) (by rfl) (by rfl)) ?_
    rintro _ _ ⟨rfl, rfl⟩
    refine JO.nil ?_
    refine J.seq rfl ?_
    refine J.region rfl ?_
    refine JO.pur rfl rfl rfl (Pur.fieldAddr rfl) ?_
    refine JO.pur rfl rfl rfl (Pur.load rfl (CellIn.blk rfl)) ?_
    refine JO.effR rfl rfl rfl (Eff.call rfl (needs_ok (dd xs i).act)) ?_
    refine JO.pur rfl rfl rfl (Pur.move rfl) ?_
    refine JO.pur rfl rfl rfl (Pur.extract rfl rfl) ?_
    refine JO.pur rfl rfl rfl (Pur.extract rfl rfl) ?_
    refine JO.pur rfl rfl rfl (Pur.extract rfl rfl) ?_
    refine JO.pur rfl rfl rfl (Pur.assign rfl) ?_
    refine JO.pur rfl rfl rfl (Pur.assign rfl) ?_
    refine JO.pur rfl rfl rfl (Pur.assign rfl) ?_
    refine JO.nil ?_
    refine J.seq rfl ?_
    refine J.seq rfl ?_
    refine J.region rfl ?_
    refine JO.pur rfl rfl rfl (Pur.move rfl) ?_
    refine JO.pur rfl rfl rfl (Pur.not rfl) ?_
    refine JO.pur rfl rfl rfl (Pur.move rfl) ?_
    refine JO.splitB 26 rfl (fun h26 => ?_) (fun h26 => ?_)
    · try simp only [decide_eq_true_eq, decide_eq_false_iff_not, Bool.not_eq_true', Bool.not_eq_false', Bool.and_eq_true, Bool.or_eq_true, Bool.and_eq_false_iff, Bool.or_eq_false_iff, Option.isNone_some, Option.isSome_some, Option.isNone_none, Option.isSome_none, Int.not_lt, Int.not_le, beq_iff_eq, beq_eq_false_iff_ne, bne_iff_ne, ne_eq, Bool.not_not, Decidable.not_not] at h26
      refine JO.no rfl rfl rfl ?_
      refine JO.no rfl rfl rfl ?_
      refine JO.no rfl rfl rfl ?_
      refine JO.no rfl rfl rfl ?_
      refine JO.no rfl rfl rfl ?_
      refine JO.pur rfl rfl rfl (Pur.pickT rfl rfl) ?_
      refine JO.pur rfl rfl rfl (Pur.move rfl) ?_
      refine JO.no rfl rfl rfl ?_
      refine JO.no rfl rfl rfl ?_
      refine JO.no rfl rfl rfl ?_
      refine JO.no rfl rfl rfl ?_
      refine JO.no rfl rfl rfl ?_
      refine JO.pur rfl rfl rfl (Pur.pickT rfl rfl) ?_
      refine JO.nil ?_
      refine J.condT rfl rfl ?_
      refine J.seq rfl ?_
      refine J.region rfl ?_
      refine JO.pur rfl rfl rfl (Pur.assign rfl) ?_
      refine JO.nil ?_
      refine J.ret rfl rfl ?_
      exact ⟨_, _, ⟨rfl, rfl⟩, congrArg Value.bool (valid_no (n := i + 1) (by omega) (by rw [vfold_succ (by omega), hvo]; exact ok_v (by rw [deed_need]; simp_all) _)).symm, SubC.out⟩
    · try simp only [decide_eq_true_eq, decide_eq_false_iff_not, Bool.not_eq_true', Bool.not_eq_false', Bool.and_eq_true, Bool.or_eq_true, Bool.and_eq_false_iff, Bool.or_eq_false_iff, Option.isNone_some, Option.isSome_some, Option.isNone_none, Option.isSome_none, Int.not_lt, Int.not_le, beq_iff_eq, beq_eq_false_iff_ne, bne_iff_ne, ne_eq, Bool.not_not, Decidable.not_not] at h26
      refine JO.pur rfl rfl rfl (Pur.fieldAddr rfl) ?_
      refine JO.pur rfl rfl rfl (Pur.load rfl (CellIn.blk rfl)) ?_
      refine JO.pur rfl rfl rfl (Pur.move rfl) ?_
      refine JO.effR rfl rfl rfl (Eff.call rfl (isVar_ok (dd xs i).var _)) ?_
      refine JO.pur rfl rfl rfl (Pur.not rfl) ?_
      refine JO.pur rfl rfl rfl (Pur.pickF rfl rfl) ?_
      refine JO.pur rfl rfl rfl (Pur.move rfl) ?_
      refine JO.splitB 33 rfl (fun h33 => ?_) (fun h33 => ?_)
      · try simp only [decide_eq_true_eq, decide_eq_false_iff_not, Bool.not_eq_true', Bool.not_eq_false', Bool.and_eq_true, Bool.or_eq_true, Bool.and_eq_false_iff, Bool.or_eq_false_iff, Option.isNone_some, Option.isSome_some, Option.isNone_none, Option.isSome_none, Int.not_lt, Int.not_le, beq_iff_eq, beq_eq_false_iff_ne, bne_iff_ne, ne_eq, Bool.not_not, Decidable.not_not] at h33
        refine JO.no rfl rfl rfl ?_
        refine JO.no rfl rfl rfl ?_
        refine JO.no rfl rfl rfl ?_
        refine JO.no rfl rfl rfl ?_
        refine JO.no rfl rfl rfl ?_
        refine JO.pur rfl rfl rfl (Pur.pickT rfl rfl) ?_
        refine JO.nil ?_
        refine J.condT rfl rfl ?_
        refine J.seq rfl ?_
        refine J.region rfl ?_
        refine JO.pur rfl rfl rfl (Pur.assign rfl) ?_
        refine JO.nil ?_
        refine J.ret rfl rfl ?_
        exact ⟨_, _, ⟨rfl, rfl⟩, congrArg Value.bool (valid_no (n := i + 1) (by omega) (by rw [vfold_succ (by omega), hvo]; exact ok_v (by rw [deed_need]; simp_all) _)).symm, SubC.out⟩
      · try simp only [decide_eq_true_eq, decide_eq_false_iff_not, Bool.not_eq_true', Bool.not_eq_false', Bool.and_eq_true, Bool.or_eq_true, Bool.and_eq_false_iff, Bool.or_eq_false_iff, Option.isNone_some, Option.isSome_some, Option.isNone_none, Option.isSome_none, Int.not_lt, Int.not_le, beq_iff_eq, beq_eq_false_iff_ne, bne_iff_ne, ne_eq, Bool.not_not, Decidable.not_not] at h33
        refine JO.pur rfl rfl rfl (Pur.fieldAddr rfl) ?_
        refine JO.pur rfl rfl rfl (Pur.load rfl (CellIn.blk rfl)) ?_
        refine JO.pur rfl rfl rfl (Pur.move rfl) ?_
        refine JO.effR rfl rfl rfl (Eff.call rfl (isVar_ok (dd xs i).src _)) ?_
        refine JO.pur rfl rfl rfl (Pur.not rfl) ?_
        refine JO.pur rfl rfl rfl (Pur.pickF rfl rfl) ?_
        refine JO.nil ?_
        refine J.splitB 39 rfl (fun h39 => ?_) (fun h39 => ?_)
        · try simp only [decide_eq_true_eq, decide_eq_false_iff_not, Bool.not_eq_true', Bool.not_eq_false', Bool.and_eq_true, Bool.or_eq_true, Bool.and_eq_false_iff, Bool.or_eq_false_iff, Option.isNone_some, Option.isSome_some, Option.isNone_none, Option.isSome_none, Int.not_lt, Int.not_le, beq_iff_eq, beq_eq_false_iff_ne, bne_iff_ne, ne_eq, Bool.not_not, Decidable.not_not] at h39
          refine J.condT rfl rfl ?_
          refine J.seq rfl ?_
          refine J.region rfl ?_
          refine JO.pur rfl rfl rfl (Pur.assign rfl) ?_
          refine JO.nil ?_
          refine J.ret rfl rfl ?_
          exact ⟨_, _, ⟨rfl, rfl⟩, congrArg Value.bool (valid_no (n := i + 1) (by omega) (by rw [vfold_succ (by omega), hvo]; exact ok_v (by rw [deed_need]; simp_all) _)).symm, SubC.out⟩
        · try simp only [decide_eq_true_eq, decide_eq_false_iff_not, Bool.not_eq_true', Bool.not_eq_false', Bool.and_eq_true, Bool.or_eq_true, Bool.and_eq_false_iff, Bool.or_eq_false_iff, Option.isNone_some, Option.isSome_some, Option.isNone_none, Option.isSome_none, Int.not_lt, Int.not_le, beq_iff_eq, beq_eq_false_iff_ne, bne_iff_ne, ne_eq, Bool.not_not, Decidable.not_not] at h39
          have hdk : deedOk (dd xs i) = true := by rw [deed_need]; simp_all
          refine J.condF rfl rfl ?_
          refine J.skip rfl ?_
          refine J.seq rfl ?_
          refine J.region rfl ?_
          refine JO.pur rfl rfl rfl (Pur.move rfl) ?_
          refine JO.pur rfl rfl rfl (Pur.len rfl) ?_
          refine JO.pur rfl rfl rfl (Pur.sub rfl rfl (wr64 (by omega))) ?_
          refine JO.pur rfl rfl rfl (Pur.assign rfl) ?_
          refine JO.nil ?_
          refine J.seq rfl ?_
          refine J.region rfl ?_
          refine JO.pur rfl rfl rfl (Pur.fieldAddr rfl) ?_
          refine JO.pur rfl rfl rfl (Pur.load rfl (CellIn.blk rfl)) ?_
          refine JO.nil ?_
          refine J.block rfl ?_
          refine J.seq rfl ?_
          refine J.region rfl ?_
          refine JO.pur rfl rfl rfl (Pur.eqlT rfl rfl) ?_
          refine JO.pur rfl rfl rfl (Pur.assign rfl) ?_
          refine JO.nil ?_
          refine J.splitB 45 rfl (fun h45 => ?_) (fun h45 => ?_)
          · try simp only [decide_eq_true_eq, decide_eq_false_iff_not, Bool.not_eq_true', Bool.not_eq_false', Bool.and_eq_true, Bool.or_eq_true, Bool.and_eq_false_iff, Bool.or_eq_false_iff, Option.isNone_some, Option.isSome_some, Option.isNone_none, Option.isSome_none, Int.not_lt, Int.not_le, beq_iff_eq, beq_eq_false_iff_ne, bne_iff_ne, ne_eq, Bool.not_not, Decidable.not_not] at h45
            have hv1 : vfold xs (i + 1) = some (false :: o) := by rw [vfold_succ (by omega), hvo]; exact v_either hdk h45 o
            refine J.condT rfl rfl ?_
            refine J.seq rfl ?_
            refine J.region rfl ?_
            refine JO.pur rfl rfl rfl (Pur.move rfl) ?_
            refine JO.eff rfl rfl rfl (Eff.buildSlice boolE [false] rfl rfl rfl rfl rfl rfl rfl) ?_
            rintro _ _ ⟨b48, rfl, -, rfl⟩
            refine JO.eff rfl rfl rfl (Eff.append rfl rfl rfl rfl (by first | rfl | omega | (simp; done) | (simp; omega)) (by first | rfl | omega | (simp; done) | (simp; omega)) (by decide) (by first | omega | (simp only [List.length_cons, List.length_nil]; omega) | (simp; omega)) (by first | omega | (simp only [List.length_cons, List.length_nil]; omega) | (simp; omega)) (fun h => by cases h)) ?_
            rintro _ _ ⟨a49, c49, rfl, rfl⟩
            refine JO.pur rfl rfl rfl (Pur.assign rfl) ?_
            refine JO.nil ?_
            refine J.region rfl ?_
            refine JO.pur rfl rfl rfl (Pur.move rfl) ?_
            refine JO.pur rfl rfl rfl (Pur.add rfl rfl (wr64 (by omega))) ?_
            refine JO.pur rfl rfl rfl (Pur.assign rfl) ?_
            refine JO.nil ?_
            refine J.inBlock ?_
            refine J.inBlock ?_
            refine J.region rfl ?_
            refine JO.pur rfl rfl rfl (Pur.add rfl rfl (wr64 (by omega))) ?_
            refine JO.pur rfl rfl rfl (Pur.move rfl) ?_
            refine JO.nil ?_
            exact J.weaken (.cons rfl (by simp) (.cons rfl (congrArg (Value.int .i64) (by dsimp only; rw [eith_next (by omega)]; simp [*, sEither, sOr, sEnd])) (.cons rfl (congrArg (Value.int .i64) (by dsimp only; omega)) (.cons rfl rfl (.cons rfl rfl (.cons rfl rfl .nil)))))) (fun h s => by dsimp only; rw [List.reverse_cons]; exact SubC.out h s) (ih0 (i + 1, a49, c49, false :: o) ⟨(by dsimp only; omega), hv1⟩ (by dsimp only; omega))
          · try simp only [decide_eq_true_eq, decide_eq_false_iff_not, Bool.not_eq_true', Bool.not_eq_false', Bool.and_eq_true, Bool.or_eq_true, Bool.and_eq_false_iff, Bool.or_eq_false_iff, Option.isNone_some, Option.isSome_some, Option.isNone_none, Option.isSome_none, Int.not_lt, Int.not_le, beq_iff_eq, beq_eq_false_iff_ne, bne_iff_ne, ne_eq, Bool.not_not, Decidable.not_not] at h45
            refine J.condF rfl rfl ?_
            refine J.seq rfl ?_
            refine J.region rfl ?_
            refine JO.pur rfl rfl rfl (Pur.eqlT rfl rfl) ?_
            refine JO.pur rfl rfl rfl (Pur.assign rfl) ?_
            refine JO.nil ?_
            refine J.splitB 52 rfl (fun h52 => ?_) (fun h52 => ?_)
            · try simp only [decide_eq_true_eq, decide_eq_false_iff_not, Bool.not_eq_true', Bool.not_eq_false', Bool.and_eq_true, Bool.or_eq_true, Bool.and_eq_false_iff, Bool.or_eq_false_iff, Option.isNone_some, Option.isSome_some, Option.isNone_none, Option.isSome_none, Int.not_lt, Int.not_le, beq_iff_eq, beq_eq_false_iff_ne, bne_iff_ne, ne_eq, Bool.not_not, Decidable.not_not] at h52
              have hvS : vfold xs (i + 1) = orS o := by rw [vfold_succ (by omega), hvo]; exact v_or hdk h52 o
              refine J.condT rfl rfl ?_
              refine J.seq rfl ?_
              refine J.seq rfl ?_
              refine J.region rfl ?_
              refine JO.pur rfl rfl rfl (Pur.move rfl) ?_
              refine JO.pur rfl rfl rfl (Pur.lss rfl rfl) ?_
              refine JO.pur rfl rfl rfl (Pur.move rfl) ?_
              refine JO.splitB 56 rfl (fun h56 => ?_) (fun h56 => ?_)
              · try simp only [decide_eq_true_eq, decide_eq_false_iff_not, Bool.not_eq_true', Bool.not_eq_false', Bool.and_eq_true, Bool.or_eq_true, Bool.and_eq_false_iff, Bool.or_eq_false_iff, Option.isNone_some, Option.isSome_some, Option.isNone_none, Option.isSome_none, Int.not_lt, Int.not_le, beq_iff_eq, beq_eq_false_iff_ne, bne_iff_ne, ne_eq, Bool.not_not, Decidable.not_not] at h56
                refine JO.no rfl rfl rfl ?_
                refine JO.no rfl rfl rfl ?_
                refine JO.no rfl rfl rfl ?_
                refine JO.no rfl rfl rfl ?_
                refine JO.pur rfl rfl rfl (Pur.pickT rfl rfl) ?_
                refine JO.nil ?_
                refine J.condT rfl rfl ?_
                refine J.seq rfl ?_
                refine J.region rfl ?_
                refine JO.pur rfl rfl rfl (Pur.assign rfl) ?_
                refine JO.nil ?_
                refine J.ret rfl rfl ?_
                have ho : o = [] := List.eq_nil_of_length_eq_zero (by omega)
                subst ho
                exact ⟨_, _, ⟨rfl, rfl⟩, congrArg Value.bool (valid_no (n := i + 1) (by omega) hvS).symm, SubC.out⟩
              · try simp only [decide_eq_true_eq, decide_eq_false_iff_not, Bool.not_eq_true', Bool.not_eq_false', Bool.and_eq_true, Bool.or_eq_true, Bool.and_eq_false_iff, Bool.or_eq_false_iff, Option.isNone_some, Option.isSome_some, Option.isNone_none, Option.isSome_none, Int.not_lt, Int.not_le, beq_iff_eq, beq_eq_false_iff_ne, bne_iff_ne, ne_eq, Bool.not_not, Decidable.not_not] at h56
                obtain ⟨b0, r, ho⟩ : ∃ b r, o = b :: r := by cases o with | nil => simp at h56 | cons b r => exact ⟨b, r, rfl⟩
                have hlast := rev_last ho
                have hrl : o.reverse.length = o.length := by simp
                have ho1 : ((o.length : Int) - 1) = ((o.length - 1 : Nat) : Int) := by omega
                refine JO.pur rfl rfl rfl (Pur.move rfl) ?_
                refine JO.pur rfl rfl rfl (Pur.move rfl) ?_
                refine JO.pur rfl rfl rfl (Pur.idx rfl rfl rfl (by first | rfl | (simp; done) | omega) ho1 (by omega)) ?_
                refine JO.pur rfl rfl rfl (Pur.load rfl (CellIn.el0 rfl hlast rfl)) ?_
                refine JO.pur rfl rfl rfl (Pur.pickF rfl rfl) ?_
                refine JO.nil ?_
                refine J.splitB 61 rfl (fun h61 => ?_) (fun h61 => ?_)
                · try simp only [decide_eq_true_eq, decide_eq_false_iff_not, Bool.not_eq_true', Bool.not_eq_false', Bool.and_eq_true, Bool.or_eq_true, Bool.and_eq_false_iff, Bool.or_eq_false_iff, Option.isNone_some, Option.isSome_some, Option.isNone_none, Option.isSome_none, Int.not_lt, Int.not_le, beq_iff_eq, beq_eq_false_iff_ne, bne_iff_ne, ne_eq, Bool.not_not, Decidable.not_not] at h61
                  refine J.condT rfl rfl ?_
                  refine J.seq rfl ?_
                  refine J.region rfl ?_
                  refine JO.pur rfl rfl rfl (Pur.assign rfl) ?_
                  refine JO.nil ?_
                  refine J.ret rfl rfl ?_
                  rw [h61] at ho
                  rw [ho] at hvS
                  exact ⟨_, _, ⟨rfl, rfl⟩, congrArg Value.bool (valid_no (n := i + 1) (by omega) hvS).symm, SubC.out⟩
                · try simp only [decide_eq_true_eq, decide_eq_false_iff_not, Bool.not_eq_true', Bool.not_eq_false', Bool.and_eq_true, Bool.or_eq_true, Bool.and_eq_false_iff, Bool.or_eq_false_iff, Option.isNone_some, Option.isSome_some, Option.isNone_none, Option.isSome_none, Int.not_lt, Int.not_le, beq_iff_eq, beq_eq_false_iff_ne, bne_iff_ne, ne_eq, Bool.not_not, Decidable.not_not] at h61
                  refine J.condF rfl rfl ?_
                  refine J.skip rfl ?_
                  refine J.region rfl ?_
                  refine JO.pur rfl rfl rfl (Pur.move rfl) ?_
                  refine JO.pur rfl rfl rfl (Pur.move rfl) ?_
                  refine JO.pur rfl rfl rfl (Pur.idx rfl rfl rfl (by first | rfl | (simp; done) | omega) ho1 (by omega)) ?_
                  refine JO.effN rfl rfl (Eff.storeS0 (E := boolE) (z' := true) rfl rfl rfl rfl hlast .head) ?_
                  rintro _ _ ⟨rfl, rfl⟩
                  refine JO.nil ?_
                  refine J.inBlock ?_
                  refine J.inBlock ?_
                  refine J.region rfl ?_
                  refine JO.pur rfl rfl rfl (Pur.add rfl rfl (wr64 (by omega))) ?_
                  refine JO.pur rfl rfl rfl (Pur.move rfl) ?_
                  refine JO.nil ?_
                  rw [h61] at ho
                  have hv1 : vfold xs (i + 1) = some (true :: r) := by rw [hvS, ho]; rfl
                  exact J.weaken (.cons rfl (by rw [ho]; simp) (.cons rfl (congrArg (Value.int .i64) (by dsimp only; rw [eith_next (by omega)]; simp [*, sEither, sOr, sEnd])) (.cons rfl (congrArg (Value.int .i64) (by dsimp only; omega)) (.cons rfl rfl (.cons rfl rfl (.cons rfl rfl .nil)))))) (fun h s => by dsimp only; rw [← rev_set ho]; exact SubC.out h s) (ih0 (i + 1, a3, c3, true :: r) ⟨(by dsimp only; omega), hv1⟩ (by dsimp only; omega))
            · try simp only [decide_eq_true_eq, decide_eq_false_iff_not, Bool.not_eq_true', Bool.not_eq_false', Bool.and_eq_true, Bool.or_eq_true, Bool.and_eq_false_iff, Bool.or_eq_false_iff, Option.isNone_some, Option.isSome_some, Option.isNone_none, Option.isSome_none, Int.not_lt, Int.not_le, beq_iff_eq, beq_eq_false_iff_ne, bne_iff_ne, ne_eq, Bool.not_not, Decidable.not_not] at h52
              refine J.condF rfl rfl ?_
              refine J.seq rfl ?_
              refine J.region rfl ?_
              refine JO.pur rfl rfl rfl (Pur.eqlT rfl rfl) ?_
              refine JO.pur rfl rfl rfl (Pur.assign rfl) ?_
              refine JO.nil ?_
              refine J.splitB 65 rfl (fun h65 => ?_) (fun h65 => ?_)
              · try simp only [decide_eq_true_eq, decide_eq_false_iff_not, Bool.not_eq_true', Bool.not_eq_false', Bool.and_eq_true, Bool.or_eq_true, Bool.and_eq_false_iff, Bool.or_eq_false_iff, Option.isNone_some, Option.isSome_some, Option.isNone_none, Option.isSome_none, Int.not_lt, Int.not_le, beq_iff_eq, beq_eq_false_iff_ne, bne_iff_ne, ne_eq, Bool.not_not, Decidable.not_not] at h65
                have hvS : vfold xs (i + 1) = endS o := by rw [vfold_succ (by omega), hvo]; exact v_end hdk h65 o
                refine J.condT rfl rfl ?_
                refine J.seq rfl ?_
                refine J.seq rfl ?_
                refine J.region rfl ?_
                refine JO.pur rfl rfl rfl (Pur.move rfl) ?_
                refine JO.pur rfl rfl rfl (Pur.lss rfl rfl) ?_
                refine JO.pur rfl rfl rfl (Pur.move rfl) ?_
                refine JO.splitB 69 rfl (fun h69 => ?_) (fun h69 => ?_)
                · try simp only [decide_eq_true_eq, decide_eq_false_iff_not, Bool.not_eq_true', Bool.not_eq_false', Bool.and_eq_true, Bool.or_eq_true, Bool.and_eq_false_iff, Bool.or_eq_false_iff, Option.isNone_some, Option.isSome_some, Option.isNone_none, Option.isSome_none, Int.not_lt, Int.not_le, beq_iff_eq, beq_eq_false_iff_ne, bne_iff_ne, ne_eq, Bool.not_not, Decidable.not_not] at h69
                  refine JO.no rfl rfl rfl ?_
                  refine JO.no rfl rfl rfl ?_
                  refine JO.no rfl rfl rfl ?_
                  refine JO.no rfl rfl rfl ?_
                  refine JO.no rfl rfl rfl ?_
                  refine JO.pur rfl rfl rfl (Pur.pickT rfl rfl) ?_
                  refine JO.nil ?_
                  refine J.condT rfl rfl ?_
                  refine J.seq rfl ?_
                  refine J.region rfl ?_
                  refine JO.pur rfl rfl rfl (Pur.assign rfl) ?_
                  refine JO.nil ?_
                  refine J.ret rfl rfl ?_
                  have ho : o = [] := List.eq_nil_of_length_eq_zero (by omega)
                  subst ho
                  exact ⟨_, _, ⟨rfl, rfl⟩, congrArg Value.bool (valid_no (n := i + 1) (by omega) hvS).symm, SubC.out⟩
                · try simp only [decide_eq_true_eq, decide_eq_false_iff_not, Bool.not_eq_true', Bool.not_eq_false', Bool.and_eq_true, Bool.or_eq_true, Bool.and_eq_false_iff, Bool.or_eq_false_iff, Option.isNone_some, Option.isSome_some, Option.isNone_none, Option.isSome_none, Int.not_lt, Int.not_le, beq_iff_eq, beq_eq_false_iff_ne, bne_iff_ne, ne_eq, Bool.not_not, Decidable.not_not] at h69
                  obtain ⟨b0, r, ho⟩ : ∃ b r, o = b :: r := by cases o with | nil => simp at h69 | cons b r => exact ⟨b, r, rfl⟩
                  have hlast := rev_last ho
                  have hrl : o.reverse.length = o.length := by simp
                  have ho1 : ((o.length : Int) - 1) = ((o.length - 1 : Nat) : Int) := by omega
                  refine JO.pur rfl rfl rfl (Pur.move rfl) ?_
                  refine JO.pur rfl rfl rfl (Pur.move rfl) ?_
                  refine JO.pur rfl rfl rfl (Pur.idx rfl rfl rfl (by first | rfl | (simp; done) | omega) ho1 (by omega)) ?_
                  refine JO.pur rfl rfl rfl (Pur.load rfl (CellIn.el0 rfl hlast rfl)) ?_
                  refine JO.pur rfl rfl rfl (Pur.not rfl) ?_
                  refine JO.pur rfl rfl rfl (Pur.pickF rfl rfl) ?_
                  refine JO.nil ?_
                  refine J.splitB 75 rfl (fun h75 => ?_) (fun h75 => ?_)
                  · try simp only [decide_eq_true_eq, decide_eq_false_iff_not, Bool.not_eq_true', Bool.not_eq_false', Bool.and_eq_true, Bool.or_eq_true, Bool.and_eq_false_iff, Bool.or_eq_false_iff, Option.isNone_some, Option.isSome_some, Option.isNone_none, Option.isSome_none, Int.not_lt, Int.not_le, beq_iff_eq, beq_eq_false_iff_ne, bne_iff_ne, ne_eq, Bool.not_not, Decidable.not_not] at h75
                    refine J.condT rfl rfl ?_
                    refine J.seq rfl ?_
                    refine J.region rfl ?_
                    refine JO.pur rfl rfl rfl (Pur.assign rfl) ?_
                    refine JO.nil ?_
                    refine J.ret rfl rfl ?_
                    rw [show b0 = false by simpa using h75] at ho
                    rw [ho] at hvS
                    exact ⟨_, _, ⟨rfl, rfl⟩, congrArg Value.bool (valid_no (n := i + 1) (by omega) hvS).symm, SubC.out⟩
                  · try simp only [decide_eq_true_eq, decide_eq_false_iff_not, Bool.not_eq_true', Bool.not_eq_false', Bool.and_eq_true, Bool.or_eq_true, Bool.and_eq_false_iff, Bool.or_eq_false_iff, Option.isNone_some, Option.isSome_some, Option.isNone_none, Option.isSome_none, Int.not_lt, Int.not_le, beq_iff_eq, beq_eq_false_iff_ne, bne_iff_ne, ne_eq, Bool.not_not, Decidable.not_not] at h75
                    refine J.condF rfl rfl ?_
                    refine J.skip rfl ?_
                    refine J.region rfl ?_
                    refine JO.pur rfl rfl rfl (Pur.move rfl) ?_
                    refine JO.pur rfl rfl rfl (Pur.move rfl) ?_
                    refine JO.fact (fun h s => SlH.le (a := a3) s) fun hle3 => ?_
                    refine JO.pur rfl rfl rfl (Pur.slice0 rfl rfl ho1 (by omega)) ?_
                    refine JO.pur rfl rfl rfl (Pur.assign rfl) ?_
                    refine JO.nil ?_
                    refine J.inBlock ?_
                    refine J.inBlock ?_
                    refine J.region rfl ?_
                    refine JO.pur rfl rfl rfl (Pur.add rfl rfl (wr64 (by omega))) ?_
                    refine JO.pur rfl rfl rfl (Pur.move rfl) ?_
                    refine JO.nil ?_
                    rw [show b0 = true by simpa using h75] at ho
                    have hv1 : vfold xs (i + 1) = some r := by rw [hvS, ho]; rfl
                    exact J.weaken (.cons rfl (by rw [ho]; simp) (.cons rfl (congrArg (Value.int .i64) (by dsimp only; rw [eith_next (by omega)]; simp [*, sEither, sOr, sEnd])) (.cons rfl (congrArg (Value.int .i64) (by dsimp only; omega)) (.cons rfl rfl (.cons rfl rfl (.cons rfl rfl .nil)))))) (fun h s => by dsimp only; rw [← rev_take ho]; exact SubC.out h (cut_sl (a := a3) (cap := c3) (E := boolE) (o.length - 1) s)) (ih0 (i + 1, a3, c3, r) ⟨(by dsimp only; omega), hv1⟩ (by dsimp only; omega))
              · try simp only [decide_eq_true_eq, decide_eq_false_iff_not, Bool.not_eq_true', Bool.not_eq_false', Bool.and_eq_true, Bool.or_eq_true, Bool.and_eq_false_iff, Bool.or_eq_false_iff, Option.isNone_some, Option.isSome_some, Option.isNone_none, Option.isSome_none, Int.not_lt, Int.not_le, beq_iff_eq, beq_eq_false_iff_ne, bne_iff_ne, ne_eq, Bool.not_not, Decidable.not_not] at h65
                refine J.condF rfl rfl ?_
                refine J.skip rfl ?_
                refine J.inBlock ?_
                refine J.inBlock ?_
                refine J.region rfl ?_
                refine JO.pur rfl rfl rfl (Pur.add rfl rfl (wr64 (by omega))) ?_
                refine JO.pur rfl rfl rfl (Pur.move rfl) ?_
                refine JO.nil ?_
                have hv1 : vfold xs (i + 1) = some o := by rw [vfold_succ (by omega), hvo]; exact v_else hdk h45 h52 h65 o
                exact J.weaken (.cons rfl rfl (.cons rfl (congrArg (Value.int .i64) (by dsimp only; rw [eith_next (by omega)]; simp [*, sEither, sOr, sEnd])) (.cons rfl (congrArg (Value.int .i64) (by dsimp only; omega)) (.cons rfl rfl (.cons rfl rfl (.cons rfl rfl .nil)))))) (fun h s => SubC.out h s) (ih0 (i + 1, a3, c3, o) ⟨(by dsimp only; omega), hv1⟩ (by dsimp only; omega))
  · try simp only [decide_eq_true_eq, decide_eq_false_iff_not, Bool.not_eq_true', Bool.not_eq_false', Bool.and_eq_true, Bool.or_eq_true, Bool.and_eq_false_iff, Bool.or_eq_false_iff, Option.isNone_some, Option.isSome_some, Option.isNone_none, Option.isSome_none, Int.not_lt, Int.not_le, beq_iff_eq, beq_eq_false_iff_ne, bne_iff_ne, ne_eq, Bool.not_not, Decidable.not_not] at h14
    refine J.condF rfl rfl ?_
    refine J.exit rfl rfl ?_
    refine J.seq rfl ?_
    refine J.region rfl ?_
    refine JO.pur rfl rfl rfl (Pur.move rfl) ?_
    refine JO.pur rfl rfl rfl (Pur.len rfl) ?_
    refine JO.pur rfl rfl rfl (Pur.eqlI rfl rfl) ?_
    refine JO.pur rfl rfl rfl (Pur.move rfl) ?_
    refine JO.splitB 83 rfl (fun h83 => ?_) (fun h83 => ?_)
    · try simp only [decide_eq_true_eq, decide_eq_false_iff_not, Bool.not_eq_true', Bool.not_eq_false', Bool.and_eq_true, Bool.or_eq_true, Bool.and_eq_false_iff, Bool.or_eq_false_iff, Option.isNone_some, Option.isSome_some, Option.isNone_none, Option.isSome_none, Int.not_lt, Int.not_le, beq_iff_eq, beq_eq_false_iff_ne, bne_iff_ne, ne_eq, Bool.not_not, Decidable.not_not] at h83
      refine JO.pur rfl rfl rfl (Pur.move rfl) ?_
      refine JO.pur rfl rfl rfl (Pur.leq rfl rfl) ?_
      refine JO.pur rfl rfl rfl (Pur.pickT rfl rfl) ?_
      refine JO.pur rfl rfl rfl (Pur.move rfl) ?_
      refine JO.splitB 87 rfl (fun h87 => ?_) (fun h87 => ?_)
      · try simp only [decide_eq_true_eq, decide_eq_false_iff_not, Bool.not_eq_true', Bool.not_eq_false', Bool.and_eq_true, Bool.or_eq_true, Bool.and_eq_false_iff, Bool.or_eq_false_iff, Option.isNone_some, Option.isSome_some, Option.isNone_none, Option.isSome_none, Int.not_lt, Int.not_le, beq_iff_eq, beq_eq_false_iff_ne, bne_iff_ne, ne_eq, Bool.not_not, Decidable.not_not] at h87
        refine JO.pur rfl rfl rfl (Pur.move rfl) ?_
        refine JO.pur rfl rfl rfl (Pur.len rfl) ?_
        refine JO.pur rfl rfl rfl (Pur.leq rfl rfl) ?_
        refine JO.pur rfl rfl rfl (Pur.pickT rfl rfl) ?_
        refine JO.pur rfl rfl rfl (Pur.assign rfl) ?_
        refine JO.nil ?_
        refine J.ret rfl rfl ?_
        have hin : i = xs.length := by omega
        subst hin
        rw [List.take_length] at *
        exact ⟨_, _, ⟨rfl, rfl⟩, congrArg Value.bool (by unfold validB; rw [hvo]; have : o = [] := List.eq_nil_of_length_eq_zero (by omega); subst this; rw [Bool.eq_iff_iff]; simp; omega), SubC.out⟩
      · try simp only [decide_eq_true_eq, decide_eq_false_iff_not, Bool.not_eq_true', Bool.not_eq_false', Bool.and_eq_true, Bool.or_eq_true, Bool.and_eq_false_iff, Bool.or_eq_false_iff, Option.isNone_some, Option.isSome_some, Option.isNone_none, Option.isSome_none, Int.not_lt, Int.not_le, beq_iff_eq, beq_eq_false_iff_ne, bne_iff_ne, ne_eq, Bool.not_not, Decidable.not_not] at h87
        refine JO.no rfl rfl rfl ?_
        refine JO.no rfl rfl rfl ?_
        refine JO.no rfl rfl rfl ?_
        refine JO.pur rfl rfl rfl (Pur.pickF rfl rfl) ?_
        refine JO.pur rfl rfl rfl (Pur.assign rfl) ?_
        refine JO.nil ?_
        refine J.ret rfl rfl ?_
        have hin : i = xs.length := by omega
        subst hin
        rw [List.take_length] at *
        exact ⟨_, _, ⟨rfl, rfl⟩, congrArg Value.bool (by unfold validB; rw [decide_eq_false (p := eithers xs ≤ 8) (by omega)]; simp), SubC.out⟩
    · try simp only [decide_eq_true_eq, decide_eq_false_iff_not, Bool.not_eq_true', Bool.not_eq_false', Bool.and_eq_true, Bool.or_eq_true, Bool.and_eq_false_iff, Bool.or_eq_false_iff, Option.isNone_some, Option.isSome_some, Option.isNone_none, Option.isSome_none, Int.not_lt, Int.not_le, beq_iff_eq, beq_eq_false_iff_ne, bne_iff_ne, ne_eq, Bool.not_not, Decidable.not_not] at h83
      refine JO.no rfl rfl rfl ?_
      refine JO.no rfl rfl rfl ?_
      refine JO.pur rfl rfl rfl (Pur.pickF rfl rfl) ?_
      refine JO.pur rfl rfl rfl (Pur.move rfl) ?_
      refine JO.no rfl rfl rfl ?_
      refine JO.no rfl rfl rfl ?_
      refine JO.no rfl rfl rfl ?_
      refine JO.pur rfl rfl rfl (Pur.pickF rfl rfl) ?_
      refine JO.pur rfl rfl rfl (Pur.assign rfl) ?_
      refine JO.nil ?_
      refine J.ret rfl rfl ?_
      have hin : i = xs.length := by omega
      subst hin
      rw [List.take_length] at *
      exact ⟨_, _, ⟨rfl, rfl⟩, congrArg Value.bool (by unfold validB; rw [hvo, decide_eq_false (p := some o = some []) (by simp; intro e; subst e; simp at h83)]; rfl), SubC.out⟩

set_option maxRecDepth 10000 in
theorem rvalid_ok {L : List Asn} {b : Option Addr} {n cp : Nat} {xs : List Deed} [SlIn deedE L b xs] (hn : n = xs.length) :
    CallS Try.prog 14 [.slice b n cp].toArray L (fun v M => v = .bool (validB xs) ∧ M = L) := by
  subst hn
  refine CallS.ent ?_
  refine CallS.enter Try.func14 rfl rfl rfl rfl rfl ?_
  refine J.seq rfl ?_
  refine J.region rfl ?_
  refine JO.pur rfl rfl rfl (Pur.assign rfl) ?_
  refine JO.nil ?_
  refine J.seq rfl ?_
  refine J.seq rfl ?_
  refine J.region rfl ?_
  refine JO.pur rfl rfl rfl (Pur.move rfl) ?_
  refine JO.pur rfl rfl rfl (Pur.len rfl) ?_
  refine JO.pur rfl rfl rfl (Pur.gtr rfl rfl) ?_
  refine JO.nil ?_
  refine J.splitB 13 rfl (fun h13 => ?_) (fun h13 => ?_)
  · try simp only [decide_eq_true_eq, decide_eq_false_iff_not, Bool.not_eq_true', Bool.not_eq_false', Bool.and_eq_true, Bool.or_eq_true, Bool.and_eq_false_iff, Bool.or_eq_false_iff, Option.isNone_some, Option.isSome_some, Option.isNone_none, Option.isSome_none, Int.not_lt, Int.not_le, beq_iff_eq, beq_eq_false_iff_ne, bne_iff_ne, ne_eq, Bool.not_not, Decidable.not_not] at h13
    refine J.condT rfl rfl ?_
    refine J.seq rfl ?_
    refine J.region rfl ?_
    refine JO.pur rfl rfl rfl (Pur.assign rfl) ?_
    refine JO.nil ?_
    refine J.ret rfl rfl ?_
    exact ⟨_, _, ⟨rfl, rfl⟩, congrArg Value.bool (by unfold validB; rw [decide_eq_false (p := xs.length ≤ 60) (by omega)]; simp), SubC.out⟩
  · try simp only [decide_eq_true_eq, decide_eq_false_iff_not, Bool.not_eq_true', Bool.not_eq_false', Bool.and_eq_true, Bool.or_eq_true, Bool.and_eq_false_iff, Bool.or_eq_false_iff, Option.isNone_some, Option.isSome_some, Option.isNone_none, Option.isSome_none, Int.not_lt, Int.not_le, beq_iff_eq, beq_eq_false_iff_ne, bne_iff_ne, ne_eq, Bool.not_not, Decidable.not_not] at h13
    refine J.condF rfl rfl ?_
    refine J.skip rfl ?_
    refine J.seq rfl ?_
    refine J.region rfl ?_
    refine JO.pur rfl rfl rfl (Pur.assign rfl) ?_
    refine JO.nil ?_
    refine J.seq rfl ?_
    refine J.region rfl ?_
    refine JO.pur rfl rfl rfl (Pur.assign rfl) ?_
    refine JO.nil ?_
    refine J.seq rfl ?_
    refine J.seq rfl ?_
    refine J.region rfl ?_
    refine JO.pur rfl rfl rfl (Pur.assign rfl) ?_
    refine JO.nil ?_
    refine J.block rfl ?_
    refine J.loopF (ι := Nat × Option Addr × Nat × List Bool) (fun q => q.1 ≤ xs.length ∧ vfold xs q.1 = some q.2.2.2) (fun q => [(3, .slice q.2.1 q.2.2.2.length q.2.2.1), (4, .int .i64 (eithers (xs.take q.1) : Nat)), (5, .int .i64 (q.1 : Int))]) [(0, _)] (fun q => sl boolE q.2.1 q.2.2.1 q.2.2.2.reverse :: L) (fun q => xs.length - q.1) (0, none, 0, []) rfl (.cons rfl rfl .nil) (.cons rfl rfl (.cons rfl rfl (.cons rfl rfl .nil))) (fun h s => by dsimp only; rw [List.reverse_nil]; exact SubC.out h (sl_nil_new (E := boolE) s)) ⟨Nat.zero_le _, rfl⟩ ?_
    rintro ⟨i, a3, c3, o⟩ ⟨hi, hvo⟩ ih0
    try dsimp only
    dsimp only at hi hvo
    have hel := eith_le xs i
    have hol := vlen hi hvo
    refine J.seq rfl ?_
    refine J.seq rfl ?_
    refine J.region rfl ?_
    refine JO.pur rfl rfl rfl (Pur.move rfl) ?_
    refine JO.pur rfl rfl rfl (Pur.move rfl) ?_
    refine JO.pur rfl rfl rfl (Pur.len rfl) ?_
    refine JO.pur rfl rfl rfl (Pur.lss rfl rfl) ?_
    refine JO.nil ?_
    refine J.splitB 17 rfl (fun h17 => ?_) (fun h17 => ?_)
    · try simp only [decide_eq_true_eq, decide_eq_false_iff_not, Bool.not_eq_true', Bool.not_eq_false', Bool.and_eq_true, Bool.or_eq_true, Bool.and_eq_false_iff, Bool.or_eq_false_iff, Option.isNone_some, Option.isSome_some, Option.isNone_none, Option.isSome_none, Int.not_lt, Int.not_le, beq_iff_eq, beq_eq_false_iff_ne, bne_iff_ne, ne_eq, Bool.not_not, Decidable.not_not] at h17
      refine J.condT rfl rfl ?_
      refine J.skip rfl ?_
      refine J.seq rfl ?_
      refine J.block rfl ?_
      refine J.seq rfl ?_
      refine J.region rfl ?_
      refine JO.pur rfl rfl rfl (Pur.move rfl) ?_
      refine JO.pur rfl rfl rfl (Pur.move rfl) ?_
      refine JO.pur rfl rfl rfl (Pur.idx rfl rfl rfl (by first | rfl | (simp; done) | omega) (by first | rfl | exact (Int.toNat_of_nonneg (by omega)).symm) (by first | omega | (simp only [List.length_map]; omega) | (simp; omega))) ?_
      refine JO.pur rfl rfl rfl (Pur.loadA rfl rfl rfl (CellsIn.el rfl (dd_get (by omega)))) ?_
      refine JO.eff rfl rfl rfl (Eff.alloc (cs := [_, _, _]) rfl) ?_
      rintro _ _ ⟨b6, rfl, rfl⟩
      refine JO.effN rfl rfl (Eff.storeBA (cs' := [_, _, _]) rfl rfl (by rfl) (by rfl) (by rfl)) ?_
      rintro _ _ ⟨rfl, rfl⟩
      refine JO.nil ?_
      refine J.seq rfl ?_
      refine J.region rfl ?_
      refine JO.pur rfl rfl rfl (Pur.fieldAddr rfl) ?_
      refine JO.pur rfl rfl rfl (Pur.load rfl (CellIn.blk rfl)) ?_
      refine JO.effR rfl rfl rfl (Eff.call rfl (shape_ok (dd xs i).act)) ?_
      refine JO.pur rfl rfl rfl (Pur.move rfl) ?_
      refine JO.pur rfl rfl rfl (Pur.extract rfl rfl) ?_
      refine JO.pur rfl rfl rfl (Pur.extract rfl rfl) ?_
      refine JO.pur rfl rfl rfl (Pur.extract rfl rfl) ?_
      refine JO.pur rfl rfl rfl (Pur.assign rfl) ?_
      refine JO.pur rfl rfl rfl (Pur.assign rfl) ?_
      refine JO.pur rfl rfl rfl (Pur.assign rfl) ?_
      refine JO.nil ?_
      refine J.seq rfl ?_
      refine J.seq rfl ?_
      refine J.cut2 (ι := Unit) (fun q => deedOk (dd xs i) = true) (fun q => []) [(0, _), (3, _), (4, _), (5, _), (6, _)] (fun q => blk b6 (.cells #[.string (dd xs i).act, .string (dd xs i).var, .string (dd xs i).src] 46 (0, 0)) :: sl boolE a3 c3 o.reverse :: L) (.cons rfl rfl (.cons rfl rfl (.cons rfl rfl (.cons rfl rfl (.cons rfl rfl .nil))))) ?_ ?_
      · rintro - hdk
        try dsimp only
        refine J.seq rfl ?_
        refine J.region rfl ?_
        refine JO.pur rfl rfl rfl (Pur.move rfl) ?_
        refine JO.pur rfl rfl rfl (Pur.len rfl) ?_
        refine JO.pur rfl rfl rfl (Pur.sub rfl rfl (wr64 (by omega))) ?_
        refine JO.pur rfl rfl rfl (Pur.assign rfl) ?_
        refine JO.nil ?_
        refine J.seq rfl ?_
        refine J.region rfl ?_
        refine JO.pur rfl rfl rfl (Pur.fieldAddr rfl) ?_
        refine JO.pur rfl rfl rfl (Pur.load rfl (CellIn.blk rfl)) ?_
        refine JO.nil ?_
        refine J.block rfl ?_
        refine J.seq rfl ?_
        refine J.region rfl ?_
        refine JO.pur rfl rfl rfl (Pur.eqlT rfl rfl) ?_
        refine JO.pur rfl rfl rfl (Pur.assign rfl) ?_
        refine JO.nil ?_
        refine J.splitB 70 rfl (fun h70 => ?_) (fun h70 => ?_)
        · try simp only [decide_eq_true_eq, decide_eq_false_iff_not, Bool.not_eq_true', Bool.not_eq_false', Bool.and_eq_true, Bool.or_eq_true, Bool.and_eq_false_iff, Bool.or_eq_false_iff, Option.isNone_some, Option.isSome_some, Option.isNone_none, Option.isSome_none, Int.not_lt, Int.not_le, beq_iff_eq, beq_eq_false_iff_ne, bne_iff_ne, ne_eq, Bool.not_not, Decidable.not_not] at h70
          have hv1 : vfold xs (i + 1) = some (false :: o) := by rw [vfold_succ (by omega), hvo]; exact v_either hdk h70 o
          refine J.condT rfl rfl ?_
          refine J.seq rfl ?_
          refine J.region rfl ?_
          refine JO.pur rfl rfl rfl (Pur.move rfl) ?_
          refine JO.eff rfl rfl rfl (Eff.buildSlice boolE [false] rfl rfl rfl rfl rfl rfl rfl) ?_
          rintro _ _ ⟨b73, rfl, -, rfl⟩
          refine JO.eff rfl rfl rfl (Eff.append rfl rfl rfl rfl (by first | rfl | omega | (simp; done) | (simp; omega)) (by first | rfl | omega | (simp; done) | (simp; omega)) (by decide) (by first | omega | (simp only [List.length_cons, List.length_nil]; omega) | (simp; omega)) (by first | omega | (simp only [List.length_cons, List.length_nil]; omega) | (simp; omega)) (fun h => by cases h)) ?_
          rintro _ _ ⟨a74, c74, rfl, rfl⟩
          refine JO.pur rfl rfl rfl (Pur.assign rfl) ?_
          refine JO.nil ?_
          refine J.region rfl ?_
          refine JO.pur rfl rfl rfl (Pur.move rfl) ?_
          refine JO.pur rfl rfl rfl (Pur.add rfl rfl (wr64 (by omega))) ?_
          refine JO.pur rfl rfl rfl (Pur.assign rfl) ?_
          refine JO.nil ?_
          refine J.inBlock ?_
          refine J.inBlock ?_
          refine J.region rfl ?_
          refine JO.pur rfl rfl rfl (Pur.move rfl) ?_
          refine JO.pur rfl rfl rfl (Pur.add rfl rfl (wr64 (by omega))) ?_
          refine JO.pur rfl rfl rfl (Pur.assign rfl) ?_
          refine JO.nil ?_
          exact J.weaken (.cons rfl (by simp) (.cons rfl (congrArg (Value.int .i64) (by dsimp only; rw [eith_next (by omega)]; simp [*, sEither, sOr, sEnd])) (.cons rfl (congrArg (Value.int .i64) (by dsimp only; omega)) (.cons rfl rfl .nil)))) (fun h s => by dsimp only; rw [List.reverse_cons]; exact SubC.out h s) (ih0 (i + 1, a74, c74, false :: o) ⟨(by dsimp only; omega), hv1⟩ (by dsimp only; omega))
        · try simp only [decide_eq_true_eq, decide_eq_false_iff_not, Bool.not_eq_true', Bool.not_eq_false', Bool.and_eq_true, Bool.or_eq_true, Bool.and_eq_false_iff, Bool.or_eq_false_iff, Option.isNone_some, Option.isSome_some, Option.isNone_none, Option.isSome_none, Int.not_lt, Int.not_le, beq_iff_eq, beq_eq_false_iff_ne, bne_iff_ne, ne_eq, Bool.not_not, Decidable.not_not] at h70
          refine J.condF rfl rfl ?_
          refine J.seq rfl ?_
          refine J.region rfl ?_
          refine JO.pur rfl rfl rfl (Pur.eqlT rfl rfl) ?_
          refine JO.pur rfl rfl rfl (Pur.assign rfl) ?_
          refine JO.nil ?_
          refine J.splitB 77 rfl (fun h77 => ?_) (fun h77 => ?_)
          · try simp only [decide_eq_true_eq, decide_eq_false_iff_not, Bool.not_eq_true', Bool.not_eq_false', Bool.and_eq_true, Bool.or_eq_true, Bool.and_eq_false_iff, Bool.or_eq_false_iff, Option.isNone_some, Option.isSome_some, Option.isNone_none, Option.isSome_none, Int.not_lt, Int.not_le, beq_iff_eq, beq_eq_false_iff_ne, bne_iff_ne, ne_eq, Bool.not_not, Decidable.not_not] at h77
            have hvS : vfold xs (i + 1) = orS o := by rw [vfold_succ (by omega), hvo]; exact v_or hdk h77 o
            refine J.condT rfl rfl ?_
            refine J.seq rfl ?_
            refine J.seq rfl ?_
            refine J.region rfl ?_
            refine JO.pur rfl rfl rfl (Pur.move rfl) ?_
            refine JO.pur rfl rfl rfl (Pur.lss rfl rfl) ?_
            refine JO.pur rfl rfl rfl (Pur.move rfl) ?_
            refine JO.splitB 81 rfl (fun h81 => ?_) (fun h81 => ?_)
            · try simp only [decide_eq_true_eq, decide_eq_false_iff_not, Bool.not_eq_true', Bool.not_eq_false', Bool.and_eq_true, Bool.or_eq_true, Bool.and_eq_false_iff, Bool.or_eq_false_iff, Option.isNone_some, Option.isSome_some, Option.isNone_none, Option.isSome_none, Int.not_lt, Int.not_le, beq_iff_eq, beq_eq_false_iff_ne, bne_iff_ne, ne_eq, Bool.not_not, Decidable.not_not] at h81
              refine JO.no rfl rfl rfl ?_
              refine JO.no rfl rfl rfl ?_
              refine JO.no rfl rfl rfl ?_
              refine JO.no rfl rfl rfl ?_
              refine JO.pur rfl rfl rfl (Pur.pickT rfl rfl) ?_
              refine JO.nil ?_
              refine J.condT rfl rfl ?_
              refine J.seq rfl ?_
              refine J.region rfl ?_
              refine JO.pur rfl rfl rfl (Pur.assign rfl) ?_
              refine JO.nil ?_
              refine J.ret rfl rfl ?_
              have ho : o = [] := List.eq_nil_of_length_eq_zero (by omega)
              subst ho
              exact ⟨_, _, ⟨rfl, rfl⟩, congrArg Value.bool (valid_no (n := i + 1) (by omega) hvS).symm, SubC.out⟩
            · try simp only [decide_eq_true_eq, decide_eq_false_iff_not, Bool.not_eq_true', Bool.not_eq_false', Bool.and_eq_true, Bool.or_eq_true, Bool.and_eq_false_iff, Bool.or_eq_false_iff, Option.isNone_some, Option.isSome_some, Option.isNone_none, Option.isSome_none, Int.not_lt, Int.not_le, beq_iff_eq, beq_eq_false_iff_ne, bne_iff_ne, ne_eq, Bool.not_not, Decidable.not_not] at h81
              obtain ⟨b0, r, ho⟩ : ∃ b r, o = b :: r := by cases o with | nil => simp at h81 | cons b r => exact ⟨b, r, rfl⟩
              have hlast := rev_last ho
              have hrl : o.reverse.length = o.length := by simp
              have ho1 : ((o.length : Int) - 1) = ((o.length - 1 : Nat) : Int) := by omega
              refine JO.pur rfl rfl rfl (Pur.move rfl) ?_
              refine JO.pur rfl rfl rfl (Pur.move rfl) ?_
              refine JO.pur rfl rfl rfl (Pur.idx rfl rfl rfl (by first | rfl | (simp; done) | omega) ho1 (by omega)) ?_
              refine JO.pur rfl rfl rfl (Pur.load rfl (CellIn.el0 rfl hlast rfl)) ?_
              refine JO.pur rfl rfl rfl (Pur.pickF rfl rfl) ?_
              refine JO.nil ?_
              refine J.splitB 86 rfl (fun h86 => ?_) (fun h86 => ?_)
              · try simp only [decide_eq_true_eq, decide_eq_false_iff_not, Bool.not_eq_true', Bool.not_eq_false', Bool.and_eq_true, Bool.or_eq_true, Bool.and_eq_false_iff, Bool.or_eq_false_iff, Option.isNone_some, Option.isSome_some, Option.isNone_none, Option.isSome_none, Int.not_lt, Int.not_le, beq_iff_eq, beq_eq_false_iff_ne, bne_iff_ne, ne_eq, Bool.not_not, Decidable.not_not] at h86
                refine J.condT rfl rfl ?_
                refine J.seq rfl ?_
                refine J.region rfl ?_
                refine JO.pur rfl rfl rfl (Pur.assign rfl) ?_
                refine JO.nil ?_
                refine J.ret rfl rfl ?_
                rw [h86] at ho
                rw [ho] at hvS
                exact ⟨_, _, ⟨rfl, rfl⟩, congrArg Value.bool (valid_no (n := i + 1) (by omega) hvS).symm, SubC.out⟩
              · try simp only [decide_eq_true_eq, decide_eq_false_iff_not, Bool.not_eq_true', Bool.not_eq_false', Bool.and_eq_true, Bool.or_eq_true, Bool.and_eq_false_iff, Bool.or_eq_false_iff, Option.isNone_some, Option.isSome_some, Option.isNone_none, Option.isSome_none, Int.not_lt, Int.not_le, beq_iff_eq, beq_eq_false_iff_ne, bne_iff_ne, ne_eq, Bool.not_not, Decidable.not_not] at h86
                refine J.condF rfl rfl ?_
                refine J.skip rfl ?_
                refine J.region rfl ?_
                refine JO.pur rfl rfl rfl (Pur.move rfl) ?_
                refine JO.pur rfl rfl rfl (Pur.move rfl) ?_
                refine JO.pur rfl rfl rfl (Pur.idx rfl rfl rfl (by first | rfl | (simp; done) | omega) ho1 (by omega)) ?_
                refine JO.effN rfl rfl (Eff.storeS0 (E := boolE) (z' := true) rfl rfl rfl rfl hlast .head) ?_
                rintro _ _ ⟨rfl, rfl⟩
                refine JO.nil ?_
                refine J.inBlock ?_
                refine J.inBlock ?_
                refine J.region rfl ?_
                refine JO.pur rfl rfl rfl (Pur.move rfl) ?_
                refine JO.pur rfl rfl rfl (Pur.add rfl rfl (wr64 (by omega))) ?_
                refine JO.pur rfl rfl rfl (Pur.assign rfl) ?_
                refine JO.nil ?_
                rw [h86] at ho
                have hv1 : vfold xs (i + 1) = some (true :: r) := by rw [hvS, ho]; rfl
                exact J.weaken (.cons rfl (by rw [ho]; simp) (.cons rfl (congrArg (Value.int .i64) (by dsimp only; rw [eith_next (by omega)]; simp [*, sEither, sOr, sEnd])) (.cons rfl (congrArg (Value.int .i64) (by dsimp only; omega)) (.cons rfl rfl .nil)))) (fun h s => by dsimp only; rw [← rev_set ho]; exact SubC.out h s) (ih0 (i + 1, a3, c3, true :: r) ⟨(by dsimp only; omega), hv1⟩ (by dsimp only; omega))
          · try simp only [decide_eq_true_eq, decide_eq_false_iff_not, Bool.not_eq_true', Bool.not_eq_false', Bool.and_eq_true, Bool.or_eq_true, Bool.and_eq_false_iff, Bool.or_eq_false_iff, Option.isNone_some, Option.isSome_some, Option.isNone_none, Option.isSome_none, Int.not_lt, Int.not_le, beq_iff_eq, beq_eq_false_iff_ne, bne_iff_ne, ne_eq, Bool.not_not, Decidable.not_not] at h77
            refine J.condF rfl rfl ?_
            refine J.seq rfl ?_
            refine J.region rfl ?_
            refine JO.pur rfl rfl rfl (Pur.eqlT rfl rfl) ?_
            refine JO.pur rfl rfl rfl (Pur.assign rfl) ?_
            refine JO.nil ?_
            refine J.splitB 90 rfl (fun h90 => ?_) (fun h90 => ?_)
            · try simp only [decide_eq_true_eq, decide_eq_false_iff_not, Bool.not_eq_true', Bool.not_eq_false', Bool.and_eq_true, Bool.or_eq_true, Bool.and_eq_false_iff, Bool.or_eq_false_iff, Option.isNone_some, Option.isSome_some, Option.isNone_none, Option.isSome_none, Int.not_lt, Int.not_le, beq_iff_eq, beq_eq_false_iff_ne, bne_iff_ne, ne_eq, Bool.not_not, Decidable.not_not] at h90
              have hvS : vfold xs (i + 1) = endS o := by rw [vfold_succ (by omega), hvo]; exact v_end hdk h90 o
              refine J.condT rfl rfl ?_
              refine J.seq rfl ?_
              refine J.seq rfl ?_
              refine J.region rfl ?_
              refine JO.pur rfl rfl rfl (Pur.move rfl) ?_
              refine JO.pur rfl rfl rfl (Pur.lss rfl rfl) ?_
              refine JO.pur rfl rfl rfl (Pur.move rfl) ?_
              refine JO.splitB 94 rfl (fun h94 => ?_) (fun h94 => ?_)
              · try simp only [decide_eq_true_eq, decide_eq_false_iff_not, Bool.not_eq_true', Bool.not_eq_false', Bool.and_eq_true, Bool.or_eq_true, Bool.and_eq_false_iff, Bool.or_eq_false_iff, Option.isNone_some, Option.isSome_some, Option.isNone_none, Option.isSome_none, Int.not_lt, Int.not_le, beq_iff_eq, beq_eq_false_iff_ne, bne_iff_ne, ne_eq, Bool.not_not, Decidable.not_not] at h94
                refine JO.no rfl rfl rfl ?_
                refine JO.no rfl rfl rfl ?_
                refine JO.no rfl rfl rfl ?_
                refine JO.no rfl rfl rfl ?_
                refine JO.no rfl rfl rfl ?_
                refine JO.pur rfl rfl rfl (Pur.pickT rfl rfl) ?_
                refine JO.nil ?_
                refine J.condT rfl rfl ?_
                refine J.seq rfl ?_
                refine J.region rfl ?_
                refine JO.pur rfl rfl rfl (Pur.assign rfl) ?_
                refine JO.nil ?_
                refine J.ret rfl rfl ?_
                have ho : o = [] := List.eq_nil_of_length_eq_zero (by omega)
                subst ho
                exact ⟨_, _, ⟨rfl, rfl⟩, congrArg Value.bool (valid_no (n := i + 1) (by omega) hvS).symm, SubC.out⟩
              · try simp only [decide_eq_true_eq, decide_eq_false_iff_not, Bool.not_eq_true', Bool.not_eq_false', Bool.and_eq_true, Bool.or_eq_true, Bool.and_eq_false_iff, Bool.or_eq_false_iff, Option.isNone_some, Option.isSome_some, Option.isNone_none, Option.isSome_none, Int.not_lt, Int.not_le, beq_iff_eq, beq_eq_false_iff_ne, bne_iff_ne, ne_eq, Bool.not_not, Decidable.not_not] at h94
                obtain ⟨b0, r, ho⟩ : ∃ b r, o = b :: r := by cases o with | nil => simp at h94 | cons b r => exact ⟨b, r, rfl⟩
                have hlast := rev_last ho
                have hrl : o.reverse.length = o.length := by simp
                have ho1 : ((o.length : Int) - 1) = ((o.length - 1 : Nat) : Int) := by omega
                refine JO.pur rfl rfl rfl (Pur.move rfl) ?_
                refine JO.pur rfl rfl rfl (Pur.move rfl) ?_
                refine JO.pur rfl rfl rfl (Pur.idx rfl rfl rfl (by first | rfl | (simp; done) | omega) ho1 (by omega)) ?_
                refine JO.pur rfl rfl rfl (Pur.load rfl (CellIn.el0 rfl hlast rfl)) ?_
                refine JO.pur rfl rfl rfl (Pur.not rfl) ?_
                refine JO.pur rfl rfl rfl (Pur.pickF rfl rfl) ?_
                refine JO.nil ?_
                refine J.splitB 100 rfl (fun h100 => ?_) (fun h100 => ?_)
                · try simp only [decide_eq_true_eq, decide_eq_false_iff_not, Bool.not_eq_true', Bool.not_eq_false', Bool.and_eq_true, Bool.or_eq_true, Bool.and_eq_false_iff, Bool.or_eq_false_iff, Option.isNone_some, Option.isSome_some, Option.isNone_none, Option.isSome_none, Int.not_lt, Int.not_le, beq_iff_eq, beq_eq_false_iff_ne, bne_iff_ne, ne_eq, Bool.not_not, Decidable.not_not] at h100
                  refine J.condT rfl rfl ?_
                  refine J.seq rfl ?_
                  refine J.region rfl ?_
                  refine JO.pur rfl rfl rfl (Pur.assign rfl) ?_
                  refine JO.nil ?_
                  refine J.ret rfl rfl ?_
                  rw [show b0 = false by simpa using h100] at ho
                  rw [ho] at hvS
                  exact ⟨_, _, ⟨rfl, rfl⟩, congrArg Value.bool (valid_no (n := i + 1) (by omega) hvS).symm, SubC.out⟩
                · try simp only [decide_eq_true_eq, decide_eq_false_iff_not, Bool.not_eq_true', Bool.not_eq_false', Bool.and_eq_true, Bool.or_eq_true, Bool.and_eq_false_iff, Bool.or_eq_false_iff, Option.isNone_some, Option.isSome_some, Option.isNone_none, Option.isSome_none, Int.not_lt, Int.not_le, beq_iff_eq, beq_eq_false_iff_ne, bne_iff_ne, ne_eq, Bool.not_not, Decidable.not_not] at h100
                  refine J.condF rfl rfl ?_
                  refine J.skip rfl ?_
                  refine J.region rfl ?_
                  refine JO.pur rfl rfl rfl (Pur.move rfl) ?_
                  refine JO.pur rfl rfl rfl (Pur.move rfl) ?_
                  refine JO.fact (fun h s => SlH.le (a := a3) s) fun hle3 => ?_
                  refine JO.pur rfl rfl rfl (Pur.slice0 rfl rfl ho1 (by omega)) ?_
                  refine JO.pur rfl rfl rfl (Pur.assign rfl) ?_
                  refine JO.nil ?_
                  refine J.inBlock ?_
                  refine J.inBlock ?_
                  refine J.region rfl ?_
                  refine JO.pur rfl rfl rfl (Pur.move rfl) ?_
                  refine JO.pur rfl rfl rfl (Pur.add rfl rfl (wr64 (by omega))) ?_
                  refine JO.pur rfl rfl rfl (Pur.assign rfl) ?_
                  refine JO.nil ?_
                  rw [show b0 = true by simpa using h100] at ho
                  have hv1 : vfold xs (i + 1) = some r := by rw [hvS, ho]; rfl
                  exact J.weaken (.cons rfl (by rw [ho]; simp) (.cons rfl (congrArg (Value.int .i64) (by dsimp only; rw [eith_next (by omega)]; simp [*, sEither, sOr, sEnd])) (.cons rfl (congrArg (Value.int .i64) (by dsimp only; omega)) (.cons rfl rfl .nil)))) (fun h s => by dsimp only; rw [← rev_take ho]; exact SubC.out h (cut_sl (a := a3) (cap := c3) (E := boolE) (o.length - 1) s)) (ih0 (i + 1, a3, c3, r) ⟨(by dsimp only; omega), hv1⟩ (by dsimp only; omega))
            · try simp only [decide_eq_true_eq, decide_eq_false_iff_not, Bool.not_eq_true', Bool.not_eq_false', Bool.and_eq_true, Bool.or_eq_true, Bool.and_eq_false_iff, Bool.or_eq_false_iff, Option.isNone_some, Option.isSome_some, Option.isNone_none, Option.isSome_none, Int.not_lt, Int.not_le, beq_iff_eq, beq_eq_false_iff_ne, bne_iff_ne, ne_eq, Bool.not_not, Decidable.not_not] at h90
              refine J.condF rfl rfl ?_
              refine J.skip rfl ?_
              refine J.inBlock ?_
              refine J.inBlock ?_
              refine J.region rfl ?_
              refine JO.pur rfl rfl rfl (Pur.move rfl) ?_
              refine JO.pur rfl rfl rfl (Pur.add rfl rfl (wr64 (by omega))) ?_
              refine JO.pur rfl rfl rfl (Pur.assign rfl) ?_
              refine JO.nil ?_
              have hv1 : vfold xs (i + 1) = some o := by rw [vfold_succ (by omega), hvo]; exact v_else hdk h70 h77 h90 o
              exact J.weaken (.cons rfl rfl (.cons rfl (congrArg (Value.int .i64) (by dsimp only; rw [eith_next (by omega)]; simp [*, sEither, sOr, sEnd])) (.cons rfl (congrArg (Value.int .i64) (by dsimp only; omega)) (.cons rfl rfl .nil)))) (fun h s => SubC.out h s) (ih0 (i + 1, a3, c3, o) ⟨(by dsimp only; omega), hv1⟩ (by dsimp only; omega))
      · intro cuta10
        refine J.region rfl ?_
        refine JO.pur rfl rfl rfl (Pur.move rfl) ?_
        refine JO.pur rfl rfl rfl (Pur.not rfl) ?_
        refine JO.pur rfl rfl rfl (Pur.move rfl) ?_
        refine JO.splitB 33 rfl (fun h33 => ?_) (fun h33 => ?_)
        · try simp only [decide_eq_true_eq, decide_eq_false_iff_not, Bool.not_eq_true', Bool.not_eq_false', Bool.and_eq_true, Bool.or_eq_true, Bool.and_eq_false_iff, Bool.or_eq_false_iff, Option.isNone_some, Option.isSome_some, Option.isNone_none, Option.isSome_none, Int.not_lt, Int.not_le, beq_iff_eq, beq_eq_false_iff_ne, bne_iff_ne, ne_eq, Bool.not_not, Decidable.not_not] at h33
          refine JO.no rfl rfl rfl ?_
          refine JO.no rfl rfl rfl ?_
          refine JO.no rfl rfl rfl ?_
          refine JO.no rfl rfl rfl ?_
          refine JO.no rfl rfl rfl ?_
          refine JO.pur rfl rfl rfl (Pur.pickT rfl rfl) ?_
          refine JO.pur rfl rfl rfl (Pur.move rfl) ?_
          refine JO.no rfl rfl rfl ?_
          refine JO.no rfl rfl rfl ?_
          refine JO.no rfl rfl rfl ?_
          refine JO.no rfl rfl rfl ?_
          refine JO.no rfl rfl rfl ?_
          refine JO.no rfl rfl rfl ?_
          refine JO.no rfl rfl rfl ?_
          refine JO.pur rfl rfl rfl (Pur.pickT rfl rfl) ?_
          refine JO.pur rfl rfl rfl (Pur.move rfl) ?_
          refine JO.no rfl rfl rfl ?_
          refine JO.no rfl rfl rfl ?_
          refine JO.no rfl rfl rfl ?_
          refine JO.no rfl rfl rfl ?_
          refine JO.no rfl rfl rfl ?_
          refine JO.pur rfl rfl rfl (Pur.pickT rfl rfl) ?_
          refine JO.pur rfl rfl rfl (Pur.move rfl) ?_
          refine JO.no rfl rfl rfl ?_
          refine JO.no rfl rfl rfl ?_
          refine JO.no rfl rfl rfl ?_
          refine JO.no rfl rfl rfl ?_
          refine JO.no rfl rfl rfl ?_
          refine JO.no rfl rfl rfl ?_
          refine JO.no rfl rfl rfl ?_
          refine JO.pur rfl rfl rfl (Pur.pickT rfl rfl) ?_
          refine JO.nil ?_
          refine J.condT rfl rfl ?_
          refine J.seq rfl ?_
          refine J.region rfl ?_
          refine JO.pur rfl rfl rfl (Pur.assign rfl) ?_
          refine JO.nil ?_
          refine J.ret rfl rfl ?_
          exact ⟨_, _, ⟨rfl, rfl⟩, congrArg Value.bool (valid_no (n := i + 1) (by omega) (by rw [vfold_succ (by omega), hvo]; exact ok_v (by rw [deed_need]; first | (rw [show (needV (dd xs i).act).2.2 = false by simpa using h33]; rfl) | (rw [nb1 h40]; simp; done) | (rw [nb2 (by simpa using h43) h49]; simp; done) | (rw [nb1 h56]; simp; done) | (rw [nb2 (by simpa using h59) h64]; simp; done)) _)).symm, SubC.out⟩
        · try simp only [decide_eq_true_eq, decide_eq_false_iff_not, Bool.not_eq_true', Bool.not_eq_false', Bool.and_eq_true, Bool.or_eq_true, Bool.and_eq_false_iff, Bool.or_eq_false_iff, Option.isNone_some, Option.isSome_some, Option.isNone_none, Option.isSome_none, Int.not_lt, Int.not_le, beq_iff_eq, beq_eq_false_iff_ne, bne_iff_ne, ne_eq, Bool.not_not, Decidable.not_not] at h33
          refine JO.pur rfl rfl rfl (Pur.move rfl) ?_
          refine JO.pur rfl rfl rfl (Pur.fieldAddr rfl) ?_
          refine JO.pur rfl rfl rfl (Pur.load rfl (CellIn.blk rfl)) ?_
          refine JO.effR rfl rfl rfl (Eff.call rfl (risVar_ok (dd xs i).var)) ?_
          refine JO.pur rfl rfl rfl (Pur.neqB rfl rfl) ?_
          refine JO.pur rfl rfl rfl (Pur.pickF rfl rfl) ?_
          refine JO.pur rfl rfl rfl (Pur.move rfl) ?_
          refine JO.splitB 40 rfl (fun h40 => ?_) (fun h40 => ?_)
          · try simp only [decide_eq_true_eq, decide_eq_false_iff_not, Bool.not_eq_true', Bool.not_eq_false', Bool.and_eq_true, Bool.or_eq_true, Bool.and_eq_false_iff, Bool.or_eq_false_iff, Option.isNone_some, Option.isSome_some, Option.isNone_none, Option.isSome_none, Int.not_lt, Int.not_le, beq_iff_eq, beq_eq_false_iff_ne, bne_iff_ne, ne_eq, Bool.not_not, Decidable.not_not] at h40
            refine JO.no rfl rfl rfl ?_
            refine JO.no rfl rfl rfl ?_
            refine JO.no rfl rfl rfl ?_
            refine JO.no rfl rfl rfl ?_
            refine JO.no rfl rfl rfl ?_
            refine JO.no rfl rfl rfl ?_
            refine JO.no rfl rfl rfl ?_
            refine JO.pur rfl rfl rfl (Pur.pickT rfl rfl) ?_
            refine JO.pur rfl rfl rfl (Pur.move rfl) ?_
            refine JO.no rfl rfl rfl ?_
            refine JO.no rfl rfl rfl ?_
            refine JO.no rfl rfl rfl ?_
            refine JO.no rfl rfl rfl ?_
            refine JO.no rfl rfl rfl ?_
            refine JO.pur rfl rfl rfl (Pur.pickT rfl rfl) ?_
            refine JO.pur rfl rfl rfl (Pur.move rfl) ?_
            refine JO.no rfl rfl rfl ?_
            refine JO.no rfl rfl rfl ?_
            refine JO.no rfl rfl rfl ?_
            refine JO.no rfl rfl rfl ?_
            refine JO.no rfl rfl rfl ?_
            refine JO.no rfl rfl rfl ?_
            refine JO.no rfl rfl rfl ?_
            refine JO.pur rfl rfl rfl (Pur.pickT rfl rfl) ?_
            refine JO.nil ?_
            refine J.condT rfl rfl ?_
            refine J.seq rfl ?_
            refine J.region rfl ?_
            refine JO.pur rfl rfl rfl (Pur.assign rfl) ?_
            refine JO.nil ?_
            refine J.ret rfl rfl ?_
            exact ⟨_, _, ⟨rfl, rfl⟩, congrArg Value.bool (valid_no (n := i + 1) (by omega) (by rw [vfold_succ (by omega), hvo]; exact ok_v (by rw [deed_need]; first | (rw [show (needV (dd xs i).act).2.2 = false by simpa using h33]; rfl) | (rw [nb1 h40]; simp; done) | (rw [nb2 (by simpa using h43) h49]; simp; done) | (rw [nb1 h56]; simp; done) | (rw [nb2 (by simpa using h59) h64]; simp; done)) _)).symm, SubC.out⟩
          · try simp only [decide_eq_true_eq, decide_eq_false_iff_not, Bool.not_eq_true', Bool.not_eq_false', Bool.and_eq_true, Bool.or_eq_true, Bool.and_eq_false_iff, Bool.or_eq_false_iff, Option.isNone_some, Option.isSome_some, Option.isNone_none, Option.isSome_none, Int.not_lt, Int.not_le, beq_iff_eq, beq_eq_false_iff_ne, bne_iff_ne, ne_eq, Bool.not_not, Decidable.not_not] at h40
            refine JO.pur rfl rfl rfl (Pur.move rfl) ?_
            refine JO.pur rfl rfl rfl (Pur.not rfl) ?_
            refine JO.pur rfl rfl rfl (Pur.move rfl) ?_
            refine JO.splitB 43 rfl (fun h43 => ?_) (fun h43 => ?_)
            · try simp only [decide_eq_true_eq, decide_eq_false_iff_not, Bool.not_eq_true', Bool.not_eq_false', Bool.and_eq_true, Bool.or_eq_true, Bool.and_eq_false_iff, Bool.or_eq_false_iff, Option.isNone_some, Option.isSome_some, Option.isNone_none, Option.isSome_none, Int.not_lt, Int.not_le, beq_iff_eq, beq_eq_false_iff_ne, bne_iff_ne, ne_eq, Bool.not_not, Decidable.not_not] at h43
              refine JO.pur rfl rfl rfl (Pur.fieldAddr rfl) ?_
              refine JO.pur rfl rfl rfl (Pur.load rfl (CellIn.blk rfl)) ?_
              refine JO.pur rfl rfl rfl (Pur.neqT rfl rfl) ?_
              refine JO.pur rfl rfl rfl (Pur.pickT rfl rfl) ?_
              refine JO.pur rfl rfl rfl (Pur.pickF rfl rfl) ?_
              refine JO.pur rfl rfl rfl (Pur.move rfl) ?_
              refine JO.splitB 49 rfl (fun h49 => ?_) (fun h49 => ?_)
              · try simp only [decide_eq_true_eq, decide_eq_false_iff_not, Bool.not_eq_true', Bool.not_eq_false', Bool.and_eq_true, Bool.or_eq_true, Bool.and_eq_false_iff, Bool.or_eq_false_iff, Option.isNone_some, Option.isSome_some, Option.isNone_none, Option.isSome_none, Int.not_lt, Int.not_le, beq_iff_eq, beq_eq_false_iff_ne, bne_iff_ne, ne_eq, Bool.not_not, Decidable.not_not] at h49
                refine JO.no rfl rfl rfl ?_
                refine JO.no rfl rfl rfl ?_
                refine JO.no rfl rfl rfl ?_
                refine JO.no rfl rfl rfl ?_
                refine JO.no rfl rfl rfl ?_
                refine JO.pur rfl rfl rfl (Pur.pickT rfl rfl) ?_
                refine JO.pur rfl rfl rfl (Pur.move rfl) ?_
                refine JO.no rfl rfl rfl ?_
                refine JO.no rfl rfl rfl ?_
                refine JO.no rfl rfl rfl ?_
                refine JO.no rfl rfl rfl ?_
                refine JO.no rfl rfl rfl ?_
                refine JO.no rfl rfl rfl ?_
                refine JO.no rfl rfl rfl ?_
                refine JO.pur rfl rfl rfl (Pur.pickT rfl rfl) ?_
                refine JO.nil ?_
                refine J.condT rfl rfl ?_
                refine J.seq rfl ?_
                refine J.region rfl ?_
                refine JO.pur rfl rfl rfl (Pur.assign rfl) ?_
                refine JO.nil ?_
                refine J.ret rfl rfl ?_
                exact ⟨_, _, ⟨rfl, rfl⟩, congrArg Value.bool (valid_no (n := i + 1) (by omega) (by rw [vfold_succ (by omega), hvo]; exact ok_v (by rw [deed_need]; first | (rw [show (needV (dd xs i).act).2.2 = false by simpa using h33]; rfl) | (rw [nb1 h40]; simp; done) | (rw [nb2 (by simpa using h43) h49]; simp; done) | (rw [nb1 h56]; simp; done) | (rw [nb2 (by simpa using h59) h64]; simp; done)) _)).symm, SubC.out⟩
              · try simp only [decide_eq_true_eq, decide_eq_false_iff_not, Bool.not_eq_true', Bool.not_eq_false', Bool.and_eq_true, Bool.or_eq_true, Bool.and_eq_false_iff, Bool.or_eq_false_iff, Option.isNone_some, Option.isSome_some, Option.isNone_none, Option.isSome_none, Int.not_lt, Int.not_le, beq_iff_eq, beq_eq_false_iff_ne, bne_iff_ne, ne_eq, Bool.not_not, Decidable.not_not] at h49
                refine JO.pur rfl rfl rfl (Pur.move rfl) ?_
                refine JO.pur rfl rfl rfl (Pur.fieldAddr rfl) ?_
                refine JO.pur rfl rfl rfl (Pur.load rfl (CellIn.blk rfl)) ?_
                refine JO.effR rfl rfl rfl (Eff.call rfl (risVar_ok (dd xs i).src)) ?_
                refine JO.pur rfl rfl rfl (Pur.neqB rfl rfl) ?_
                refine JO.pur rfl rfl rfl (Pur.pickF rfl rfl) ?_
                refine JO.pur rfl rfl rfl (Pur.move rfl) ?_
                refine JO.splitB 56 rfl (fun h56 => ?_) (fun h56 => ?_)
                · try simp only [decide_eq_true_eq, decide_eq_false_iff_not, Bool.not_eq_true', Bool.not_eq_false', Bool.and_eq_true, Bool.or_eq_true, Bool.and_eq_false_iff, Bool.or_eq_false_iff, Option.isNone_some, Option.isSome_some, Option.isNone_none, Option.isSome_none, Int.not_lt, Int.not_le, beq_iff_eq, beq_eq_false_iff_ne, bne_iff_ne, ne_eq, Bool.not_not, Decidable.not_not] at h56
                  refine JO.no rfl rfl rfl ?_
                  refine JO.no rfl rfl rfl ?_
                  refine JO.no rfl rfl rfl ?_
                  refine JO.no rfl rfl rfl ?_
                  refine JO.no rfl rfl rfl ?_
                  refine JO.no rfl rfl rfl ?_
                  refine JO.no rfl rfl rfl ?_
                  refine JO.pur rfl rfl rfl (Pur.pickT rfl rfl) ?_
                  refine JO.nil ?_
                  refine J.condT rfl rfl ?_
                  refine J.seq rfl ?_
                  refine J.region rfl ?_
                  refine JO.pur rfl rfl rfl (Pur.assign rfl) ?_
                  refine JO.nil ?_
                  refine J.ret rfl rfl ?_
                  exact ⟨_, _, ⟨rfl, rfl⟩, congrArg Value.bool (valid_no (n := i + 1) (by omega) (by rw [vfold_succ (by omega), hvo]; exact ok_v (by rw [deed_need]; first | (rw [show (needV (dd xs i).act).2.2 = false by simpa using h33]; rfl) | (rw [nb1 h40]; simp; done) | (rw [nb2 (by simpa using h43) h49]; simp; done) | (rw [nb1 h56]; simp; done) | (rw [nb2 (by simpa using h59) h64]; simp; done)) _)).symm, SubC.out⟩
                · try simp only [decide_eq_true_eq, decide_eq_false_iff_not, Bool.not_eq_true', Bool.not_eq_false', Bool.and_eq_true, Bool.or_eq_true, Bool.and_eq_false_iff, Bool.or_eq_false_iff, Option.isNone_some, Option.isSome_some, Option.isNone_none, Option.isSome_none, Int.not_lt, Int.not_le, beq_iff_eq, beq_eq_false_iff_ne, bne_iff_ne, ne_eq, Bool.not_not, Decidable.not_not] at h56
                  refine JO.pur rfl rfl rfl (Pur.move rfl) ?_
                  refine JO.pur rfl rfl rfl (Pur.not rfl) ?_
                  refine JO.pur rfl rfl rfl (Pur.move rfl) ?_
                  refine JO.splitB 59 rfl (fun h59 => ?_) (fun h59 => ?_)
                  · try simp only [decide_eq_true_eq, decide_eq_false_iff_not, Bool.not_eq_true', Bool.not_eq_false', Bool.and_eq_true, Bool.or_eq_true, Bool.and_eq_false_iff, Bool.or_eq_false_iff, Option.isNone_some, Option.isSome_some, Option.isNone_none, Option.isSome_none, Int.not_lt, Int.not_le, beq_iff_eq, beq_eq_false_iff_ne, bne_iff_ne, ne_eq, Bool.not_not, Decidable.not_not] at h59
                    refine JO.pur rfl rfl rfl (Pur.fieldAddr rfl) ?_
                    refine JO.pur rfl rfl rfl (Pur.load rfl (CellIn.blk rfl)) ?_
                    refine JO.pur rfl rfl rfl (Pur.neqT rfl rfl) ?_
                    refine JO.pur rfl rfl rfl (Pur.pickT rfl rfl) ?_
                    refine JO.pur rfl rfl rfl (Pur.pickF rfl rfl) ?_
                    refine JO.nil ?_
                    refine J.splitB 64 rfl (fun h64 => ?_) (fun h64 => ?_)
                    · try simp only [decide_eq_true_eq, decide_eq_false_iff_not, Bool.not_eq_true', Bool.not_eq_false', Bool.and_eq_true, Bool.or_eq_true, Bool.and_eq_false_iff, Bool.or_eq_false_iff, Option.isNone_some, Option.isSome_some, Option.isNone_none, Option.isSome_none, Int.not_lt, Int.not_le, beq_iff_eq, beq_eq_false_iff_ne, bne_iff_ne, ne_eq, Bool.not_not, Decidable.not_not] at h64
                      refine J.condT rfl rfl ?_
                      refine J.seq rfl ?_
                      refine J.region rfl ?_
                      refine JO.pur rfl rfl rfl (Pur.assign rfl) ?_
                      refine JO.nil ?_
                      refine J.ret rfl rfl ?_
                      exact ⟨_, _, ⟨rfl, rfl⟩, congrArg Value.bool (valid_no (n := i + 1) (by omega) (by rw [vfold_succ (by omega), hvo]; exact ok_v (by rw [deed_need]; first | (rw [show (needV (dd xs i).act).2.2 = false by simpa using h33]; rfl) | (rw [nb1 h40]; simp; done) | (rw [nb2 (by simpa using h43) h49]; simp; done) | (rw [nb1 h56]; simp; done) | (rw [nb2 (by simpa using h59) h64]; simp; done)) _)).symm, SubC.out⟩
                    · try simp only [decide_eq_true_eq, decide_eq_false_iff_not, Bool.not_eq_true', Bool.not_eq_false', Bool.and_eq_true, Bool.or_eq_true, Bool.and_eq_false_iff, Bool.or_eq_false_iff, Option.isNone_some, Option.isSome_some, Option.isNone_none, Option.isSome_none, Int.not_lt, Int.not_le, beq_iff_eq, beq_eq_false_iff_ne, bne_iff_ne, ne_eq, Bool.not_not, Decidable.not_not] at h64
                      refine J.condF rfl rfl ?_
                      refine J.skip rfl ?_
                      have hdk : deedOk (dd xs i) = true := by rw [deed_need, show (needV (dd xs i).act).2.2 = true by simpa using h33, ng (by simpa using h40) (by first | exact .inl (by simpa using h43) | exact .inr h49), ng (by simpa using h56) (by first | exact .inl (by simpa using h59) | exact .inr h64)]; rfl
                      exact J.weaken (.cons rfl rfl (.cons rfl rfl (.cons rfl rfl (.cons rfl rfl (.cons rfl rfl .nil))))) (by first | exact fun _ h => h | exact SubC.out | (dsimp only; exact SubC.out)) (cuta10 () hdk)
                  · try simp only [decide_eq_true_eq, decide_eq_false_iff_not, Bool.not_eq_true', Bool.not_eq_false', Bool.and_eq_true, Bool.or_eq_true, Bool.and_eq_false_iff, Bool.or_eq_false_iff, Option.isNone_some, Option.isSome_some, Option.isNone_none, Option.isSome_none, Int.not_lt, Int.not_le, beq_iff_eq, beq_eq_false_iff_ne, bne_iff_ne, ne_eq, Bool.not_not, Decidable.not_not] at h59
                    refine JO.no rfl rfl rfl ?_
                    refine JO.no rfl rfl rfl ?_
                    refine JO.no rfl rfl rfl ?_
                    refine JO.pur rfl rfl rfl (Pur.pickF rfl rfl) ?_
                    refine JO.pur rfl rfl rfl (Pur.pickF rfl rfl) ?_
                    refine JO.nil ?_
                    refine J.condF rfl rfl ?_
                    refine J.skip rfl ?_
                    have hdk : deedOk (dd xs i) = true := by rw [deed_need, show (needV (dd xs i).act).2.2 = true by simpa using h33, ng (by simpa using h40) (by first | exact .inl (by simpa using h43) | exact .inr h49), ng (by simpa using h56) (by first | exact .inl (by simpa using h59) | exact .inr h64)]; rfl
                    exact J.weaken (.cons rfl rfl (.cons rfl rfl (.cons rfl rfl (.cons rfl rfl (.cons rfl rfl .nil))))) (by first | exact fun _ h => h | exact SubC.out | (dsimp only; exact SubC.out)) (cuta10 () hdk)
            · try simp only [decide_eq_true_eq, decide_eq_false_iff_not, Bool.not_eq_true', Bool.not_eq_false', Bool.and_eq_true, Bool.or_eq_true, Bool.and_eq_false_iff, Bool.or_eq_false_iff, Option.isNone_some, Option.isSome_some, Option.isNone_none, Option.isSome_none, Int.not_lt, Int.not_le, beq_iff_eq, beq_eq_false_iff_ne, bne_iff_ne, ne_eq, Bool.not_not, Decidable.not_not] at h43
              refine JO.no rfl rfl rfl ?_
              refine JO.no rfl rfl rfl ?_
              refine JO.no rfl rfl rfl ?_
              refine JO.pur rfl rfl rfl (Pur.pickF rfl rfl) ?_
              refine JO.pur rfl rfl rfl (Pur.pickF rfl rfl) ?_
              refine JO.pur rfl rfl rfl (Pur.move rfl) ?_
              refine JO.pur rfl rfl rfl (Pur.move rfl) ?_
              refine JO.pur rfl rfl rfl (Pur.fieldAddr rfl) ?_
              refine JO.pur rfl rfl rfl (Pur.load rfl (CellIn.blk rfl)) ?_
              refine JO.effR rfl rfl rfl (Eff.call rfl (risVar_ok (dd xs i).src)) ?_
              refine JO.pur rfl rfl rfl (Pur.neqB rfl rfl) ?_
              refine JO.pur rfl rfl rfl (Pur.pickF rfl rfl) ?_
              refine JO.pur rfl rfl rfl (Pur.move rfl) ?_
              refine JO.splitB 56 rfl (fun h56 => ?_) (fun h56 => ?_)
              · try simp only [decide_eq_true_eq, decide_eq_false_iff_not, Bool.not_eq_true', Bool.not_eq_false', Bool.and_eq_true, Bool.or_eq_true, Bool.and_eq_false_iff, Bool.or_eq_false_iff, Option.isNone_some, Option.isSome_some, Option.isNone_none, Option.isSome_none, Int.not_lt, Int.not_le, beq_iff_eq, beq_eq_false_iff_ne, bne_iff_ne, ne_eq, Bool.not_not, Decidable.not_not] at h56
                refine JO.no rfl rfl rfl ?_
                refine JO.no rfl rfl rfl ?_
                refine JO.no rfl rfl rfl ?_
                refine JO.no rfl rfl rfl ?_
                refine JO.no rfl rfl rfl ?_
                refine JO.no rfl rfl rfl ?_
                refine JO.no rfl rfl rfl ?_
                refine JO.pur rfl rfl rfl (Pur.pickT rfl rfl) ?_
                refine JO.nil ?_
                refine J.condT rfl rfl ?_
                refine J.seq rfl ?_
                refine J.region rfl ?_
                refine JO.pur rfl rfl rfl (Pur.assign rfl) ?_
                refine JO.nil ?_
                refine J.ret rfl rfl ?_
                exact ⟨_, _, ⟨rfl, rfl⟩, congrArg Value.bool (valid_no (n := i + 1) (by omega) (by rw [vfold_succ (by omega), hvo]; exact ok_v (by rw [deed_need]; first | (rw [show (needV (dd xs i).act).2.2 = false by simpa using h33]; rfl) | (rw [nb1 h40]; simp; done) | (rw [nb2 (by simpa using h43) h49]; simp; done) | (rw [nb1 h56]; simp; done) | (rw [nb2 (by simpa using h59) h64]; simp; done)) _)).symm, SubC.out⟩
              · try simp only [decide_eq_true_eq, decide_eq_false_iff_not, Bool.not_eq_true', Bool.not_eq_false', Bool.and_eq_true, Bool.or_eq_true, Bool.and_eq_false_iff, Bool.or_eq_false_iff, Option.isNone_some, Option.isSome_some, Option.isNone_none, Option.isSome_none, Int.not_lt, Int.not_le, beq_iff_eq, beq_eq_false_iff_ne, bne_iff_ne, ne_eq, Bool.not_not, Decidable.not_not] at h56
                refine JO.pur rfl rfl rfl (Pur.move rfl) ?_
                refine JO.pur rfl rfl rfl (Pur.not rfl) ?_
                refine JO.pur rfl rfl rfl (Pur.move rfl) ?_
                refine JO.splitB 59 rfl (fun h59 => ?_) (fun h59 => ?_)
                · try simp only [decide_eq_true_eq, decide_eq_false_iff_not, Bool.not_eq_true', Bool.not_eq_false', Bool.and_eq_true, Bool.or_eq_true, Bool.and_eq_false_iff, Bool.or_eq_false_iff, Option.isNone_some, Option.isSome_some, Option.isNone_none, Option.isSome_none, Int.not_lt, Int.not_le, beq_iff_eq, beq_eq_false_iff_ne, bne_iff_ne, ne_eq, Bool.not_not, Decidable.not_not] at h59
                  refine JO.pur rfl rfl rfl (Pur.fieldAddr rfl) ?_
                  refine JO.pur rfl rfl rfl (Pur.load rfl (CellIn.blk rfl)) ?_
                  refine JO.pur rfl rfl rfl (Pur.neqT rfl rfl) ?_
                  refine JO.pur rfl rfl rfl (Pur.pickT rfl rfl) ?_
                  refine JO.pur rfl rfl rfl (Pur.pickF rfl rfl) ?_
                  refine JO.nil ?_
                  refine J.splitB 64 rfl (fun h64 => ?_) (fun h64 => ?_)
                  · try simp only [decide_eq_true_eq, decide_eq_false_iff_not, Bool.not_eq_true', Bool.not_eq_false', Bool.and_eq_true, Bool.or_eq_true, Bool.and_eq_false_iff, Bool.or_eq_false_iff, Option.isNone_some, Option.isSome_some, Option.isNone_none, Option.isSome_none, Int.not_lt, Int.not_le, beq_iff_eq, beq_eq_false_iff_ne, bne_iff_ne, ne_eq, Bool.not_not, Decidable.not_not] at h64
                    refine J.condT rfl rfl ?_
                    refine J.seq rfl ?_
                    refine J.region rfl ?_
                    refine JO.pur rfl rfl rfl (Pur.assign rfl) ?_
                    refine JO.nil ?_
                    refine J.ret rfl rfl ?_
                    exact ⟨_, _, ⟨rfl, rfl⟩, congrArg Value.bool (valid_no (n := i + 1) (by omega) (by rw [vfold_succ (by omega), hvo]; exact ok_v (by rw [deed_need]; first | (rw [show (needV (dd xs i).act).2.2 = false by simpa using h33]; rfl) | (rw [nb1 h40]; simp; done) | (rw [nb2 (by simpa using h43) h49]; simp; done) | (rw [nb1 h56]; simp; done) | (rw [nb2 (by simpa using h59) h64]; simp; done)) _)).symm, SubC.out⟩
                  · try simp only [decide_eq_true_eq, decide_eq_false_iff_not, Bool.not_eq_true', Bool.not_eq_false', Bool.and_eq_true, Bool.or_eq_true, Bool.and_eq_false_iff, Bool.or_eq_false_iff, Option.isNone_some, Option.isSome_some, Option.isNone_none, Option.isSome_none, Int.not_lt, Int.not_le, beq_iff_eq, beq_eq_false_iff_ne, bne_iff_ne, ne_eq, Bool.not_not, Decidable.not_not] at h64
                    refine J.condF rfl rfl ?_
                    refine J.skip rfl ?_
                    have hdk : deedOk (dd xs i) = true := by rw [deed_need, show (needV (dd xs i).act).2.2 = true by simpa using h33, ng (by simpa using h40) (by first | exact .inl (by simpa using h43) | exact .inr h49), ng (by simpa using h56) (by first | exact .inl (by simpa using h59) | exact .inr h64)]; rfl
                    exact J.weaken (.cons rfl rfl (.cons rfl rfl (.cons rfl rfl (.cons rfl rfl (.cons rfl rfl .nil))))) (by first | exact fun _ h => h | exact SubC.out | (dsimp only; exact SubC.out)) (cuta10 () hdk)
                · try simp only [decide_eq_true_eq, decide_eq_false_iff_not, Bool.not_eq_true', Bool.not_eq_false', Bool.and_eq_true, Bool.or_eq_true, Bool.and_eq_false_iff, Bool.or_eq_false_iff, Option.isNone_some, Option.isSome_some, Option.isNone_none, Option.isSome_none, Int.not_lt, Int.not_le, beq_iff_eq, beq_eq_false_iff_ne, bne_iff_ne, ne_eq, Bool.not_not, Decidable.not_not] at h59
                  refine JO.no rfl rfl rfl ?_
                  refine JO.no rfl rfl rfl ?_
                  refine JO.no rfl rfl rfl ?_
                  refine JO.pur rfl rfl rfl (Pur.pickF rfl rfl) ?_
                  refine JO.pur rfl rfl rfl (Pur.pickF rfl rfl) ?_
                  refine JO.nil ?_
                  refine J.condF rfl rfl ?_
                  refine J.skip rfl ?_
                  have hdk : deedOk (dd xs i) = true := by rw [deed_need, show (needV (dd xs i).act).2.2 = true by simpa using h33, ng (by simpa using h40) (by first | exact .inl (by simpa using h43) | exact .inr h49), ng (by simpa using h56) (by first | exact .inl (by simpa using h59) | exact .inr h64)]; rfl
                  exact J.weaken (.cons rfl rfl (.cons rfl rfl (.cons rfl rfl (.cons rfl rfl (.cons rfl rfl .nil))))) (by first | exact fun _ h => h | exact SubC.out | (dsimp only; exact SubC.out)) (cuta10 () hdk)
    · try simp only [decide_eq_true_eq, decide_eq_false_iff_not, Bool.not_eq_true', Bool.not_eq_false', Bool.and_eq_true, Bool.or_eq_true, Bool.and_eq_false_iff, Bool.or_eq_false_iff, Option.isNone_some, Option.isSome_some, Option.isNone_none, Option.isSome_none, Int.not_lt, Int.not_le, beq_iff_eq, beq_eq_false_iff_ne, bne_iff_ne, ne_eq, Bool.not_not, Decidable.not_not] at h17
      refine J.condF rfl rfl ?_
      refine J.exit rfl rfl ?_
      refine J.seq rfl ?_
      refine J.region rfl ?_
      refine JO.pur rfl rfl rfl (Pur.move rfl) ?_
      refine JO.pur rfl rfl rfl (Pur.len rfl) ?_
      refine JO.pur rfl rfl rfl (Pur.eqlI rfl rfl) ?_
      refine JO.pur rfl rfl rfl (Pur.move rfl) ?_
      refine JO.splitB 107 rfl (fun h107 => ?_) (fun h107 => ?_)
      · try simp only [decide_eq_true_eq, decide_eq_false_iff_not, Bool.not_eq_true', Bool.not_eq_false', Bool.and_eq_true, Bool.or_eq_true, Bool.and_eq_false_iff, Bool.or_eq_false_iff, Option.isNone_some, Option.isSome_some, Option.isNone_none, Option.isSome_none, Int.not_lt, Int.not_le, beq_iff_eq, beq_eq_false_iff_ne, bne_iff_ne, ne_eq, Bool.not_not, Decidable.not_not] at h107
        refine JO.pur rfl rfl rfl (Pur.move rfl) ?_
        refine JO.pur rfl rfl rfl (Pur.leq rfl rfl) ?_
        refine JO.pur rfl rfl rfl (Pur.pickT rfl rfl) ?_
        refine JO.pur rfl rfl rfl (Pur.assign rfl) ?_
        refine JO.nil ?_
        refine J.ret rfl rfl ?_
        have hin : i = xs.length := by omega
        subst hin
        rw [List.take_length] at *
        exact ⟨_, _, ⟨rfl, rfl⟩, congrArg Value.bool (by unfold validB; rw [hvo]; have : o = [] := List.eq_nil_of_length_eq_zero (by omega); subst this; rw [Bool.eq_iff_iff]; simp; omega), SubC.out⟩
      · try simp only [decide_eq_true_eq, decide_eq_false_iff_not, Bool.not_eq_true', Bool.not_eq_false', Bool.and_eq_true, Bool.or_eq_true, Bool.and_eq_false_iff, Bool.or_eq_false_iff, Option.isNone_some, Option.isSome_some, Option.isNone_none, Option.isSome_none, Int.not_lt, Int.not_le, beq_iff_eq, beq_eq_false_iff_ne, bne_iff_ne, ne_eq, Bool.not_not, Decidable.not_not] at h107
        refine JO.no rfl rfl rfl ?_
        refine JO.no rfl rfl rfl ?_
        refine JO.pur rfl rfl rfl (Pur.pickF rfl rfl) ?_
        refine JO.pur rfl rfl rfl (Pur.assign rfl) ?_
        refine JO.nil ?_
        refine J.ret rfl rfl ?_
        have hin : i = xs.length := by omega
        subst hin
        rw [List.take_length] at *
        exact ⟨_, _, ⟨rfl, rfl⟩, congrArg Value.bool (by unfold validB; rw [hvo, decide_eq_false (p := some o = some []) (by simp; intro e; subst e; simp at h107)]; rfl), SubC.out⟩

end Go.Proofs.Ythdaopmfgmojnaa
