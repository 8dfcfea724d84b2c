/-
  A part of the proof of the claim that this folder bears.
-/
import Derived.Test.YthdaopmfgmojnaaPAS
/- The text OLaw4. -/
set_option linter.unusedVariables false
set_option linter.unusedSimpArgs false
namespace Go.Proofs.Ythdaopmfgmojnaa
open Go Go.KK Ow

theorem acr (xs : List Deed) (cs : List Bool) : (acV xs).2 = (runR xs cs).2.2 := by unfold acV runR; split <;> rfl
theorem ac_valid {xs : List Deed} (h : (acV xs).2 = 0) : validB xs = true := by
  unfold acV at h
  split at h
  · assumption
  · cases h
theorem raws_next {ds : List Deed} {i : Nat} {d : Deed} (h : ds[i]? = some d) : rawsOf (ds.take (i + 1)) = rawsOf (ds.take i) ++ (if makesB d.act = true then [decide (d.act = sRaw)] else []) := by
  rw [List.take_add_one, h]
  unfold rawsOf mks
  rw [List.filter_append, List.map_append]
  congr 1
  rw [Option.toList_some, List.filter_cons]
  split <;> rfl
theorem raws_le (ds : List Deed) : (rawsOf ds).length ≤ ds.length := by
  unfold rawsOf mks
  rw [List.length_map]; exact List.length_filter_le _ _
theorem count_le1 {l : List Nat} (h : l.Nodup) (x : Nat) : l.count x ≤ 1 := List.nodup_iff_count.1 h x
theorem count_none {l : List Nat} {x : Nat} (h : ¬ x ∈ l) : l.count x = 0 := List.count_eq_zero.2 h
set_option maxRecDepth 10000 in
theorem ownerSafe_ok {L : List Asn} {a b : Option Addr} {n cp m cq : Nat} {xs : List Deed} {cs : List Bool} [SlIn deedE L a xs] [SlIn boolE L b cs] (hn : n = xs.length) (hm : m = cs.length) (hb : xs.length ≤ 3000000000000) :
    CallS Try.prog 8 [.slice a n cp, .slice b m cq].toArray L (fun v M => v = .bool true ∧ M = L) := by
  subst hn
  subst hm
  refine CallS.ent ?_
  refine CallS.enter Try.func8 rfl rfl rfl rfl rfl ?_
  refine J.seq rfl ?_
  refine J.region rfl ?_
  refine JO.pur rfl rfl rfl (Pur.assign rfl) ?_
  refine JO.nil ?_
  refine J.seq rfl ?_
  refine J.region rfl ?_
  refine JO.pur rfl rfl rfl (Pur.move rfl) ?_
  refine JO.effR rfl rfl rfl (Eff.call rfl (Accepts_ok (xs := xs) rfl hb)) ?_
  refine JO.pur rfl rfl rfl (Pur.move rfl) ?_
  refine JO.pur rfl rfl rfl (Pur.extract rfl rfl) ?_
  refine JO.pur rfl rfl rfl (Pur.extract rfl rfl) ?_
  refine JO.pur rfl rfl rfl (Pur.assign rfl) ?_
  refine JO.pur rfl rfl rfl (Pur.assign rfl) ?_
  refine JO.nil ?_
  refine J.seq rfl ?_
  refine J.region rfl ?_
  refine JO.pur rfl rfl rfl (Pur.move rfl) ?_
  refine JO.pur rfl rfl rfl (Pur.move rfl) ?_
  refine JO.effR rfl rfl rfl (Eff.call rfl (Run_ok (xs := xs) (cs := cs) rfl rfl hb)) ?_
  refine JO.pur rfl rfl rfl (Pur.move rfl) ?_
  refine JO.pur rfl rfl rfl (Pur.extract rfl rfl) ?_
  refine JO.pur rfl rfl rfl (Pur.extract rfl rfl) ?_
  refine JO.pur rfl rfl rfl (Pur.extract rfl rfl) ?_
  refine JO.pur rfl rfl rfl (Pur.assign rfl) ?_
  refine JO.pur rfl rfl rfl (Pur.assign rfl) ?_
  refine JO.pur rfl rfl rfl (Pur.assign rfl) ?_
  refine JO.nil ?_
  refine J.seq rfl ?_
  refine J.seq rfl ?_
  refine J.region rfl ?_
  refine JO.pur rfl rfl rfl (Pur.move rfl) ?_
  refine JO.pur rfl rfl rfl (Pur.move rfl) ?_
  refine JO.pur rfl rfl rfl (Pur.neqI rfl rfl) ?_
  refine JO.setv (u' := .bool false) 37 rfl (congrArg Value.bool (by simp [acr xs cs])) ?_
  refine JO.nil ?_
  refine J.condF rfl rfl ?_
  refine J.skip rfl ?_
  refine J.seq rfl ?_
  refine J.seq rfl ?_
  refine J.region rfl ?_
  refine JO.pur rfl rfl rfl (Pur.move rfl) ?_
  refine JO.pur rfl rfl rfl (Pur.neqI rfl rfl) ?_
  refine JO.pur rfl rfl rfl (Pur.move rfl) ?_
  refine JO.splitB 40 rfl (fun h40 => ?_) (fun h40 => ?_)
  · try simp only [decide_eq_true_eq, decide_eq_false_iff_not, Bool.not_eq_true', Bool.not_eq_false', Bool.and_eq_true, Bool.or_eq_true, Bool.and_eq_false_iff, Bool.or_eq_false_iff, Option.isNone_some, Option.isSome_some, Option.isNone_none, Option.isSome_none, Int.not_lt, Int.not_le, beq_iff_eq, beq_eq_false_iff_ne, bne_iff_ne, ne_eq, Bool.not_not, Decidable.not_not] at h40
    refine JO.no rfl rfl rfl ?_
    refine JO.no rfl rfl rfl ?_
    refine JO.pur rfl rfl rfl (Pur.pickT rfl rfl) ?_
    refine JO.nil ?_
    refine J.condT rfl rfl ?_
    refine J.seq rfl ?_
    refine J.region rfl ?_
    refine JO.effR rfl rfl rfl (Eff.call rfl (awake_ok)) ?_
    refine JO.pur rfl rfl rfl (Pur.assign rfl) ?_
    refine JO.nil ?_
    refine J.ret rfl rfl ?_
    exact ⟨_, _, ⟨rfl, rfl⟩, rfl, SubC.out⟩
  · try simp only [decide_eq_true_eq, decide_eq_false_iff_not, Bool.not_eq_true', Bool.not_eq_false', Bool.and_eq_true, Bool.or_eq_true, Bool.and_eq_false_iff, Bool.or_eq_false_iff, Option.isNone_some, Option.isSome_some, Option.isNone_none, Option.isSome_none, Int.not_lt, Int.not_le, beq_iff_eq, beq_eq_false_iff_ne, bne_iff_ne, ne_eq, Bool.not_not, Decidable.not_not] at h40
    have hac0 : (acV xs).2 = 0 := by simpa using h40
    have hvb := ac_valid hac0
    refine JO.pur rfl rfl rfl (Pur.move rfl) ?_
    refine JO.pur rfl rfl rfl (Pur.not rfl) ?_
    refine JO.pur rfl rfl rfl (Pur.pickF rfl rfl) ?_
    refine JO.nil ?_
    refine J.splitB 43 rfl (fun h43 => ?_) (fun h43 => ?_)
    · try simp only [decide_eq_true_eq, decide_eq_false_iff_not, Bool.not_eq_true', Bool.not_eq_false', Bool.and_eq_true, Bool.or_eq_true, Bool.and_eq_false_iff, Bool.or_eq_false_iff, Option.isNone_some, Option.isSome_some, Option.isNone_none, Option.isSome_none, Int.not_lt, Int.not_le, beq_iff_eq, beq_eq_false_iff_ne, bne_iff_ne, ne_eq, Bool.not_not, Decidable.not_not] at h43
      refine J.condT rfl rfl ?_
      refine J.seq rfl ?_
      refine J.region rfl ?_
      refine JO.effR rfl rfl rfl (Eff.call rfl (awake_ok)) ?_
      refine JO.pur rfl rfl rfl (Pur.assign rfl) ?_
      refine JO.nil ?_
      refine J.ret rfl rfl ?_
      exact ⟨_, _, ⟨rfl, rfl⟩, rfl, SubC.out⟩
    · try simp only [decide_eq_true_eq, decide_eq_false_iff_not, Bool.not_eq_true', Bool.not_eq_false', Bool.and_eq_true, Bool.or_eq_true, Bool.and_eq_false_iff, Bool.or_eq_false_iff, Option.isNone_some, Option.isSome_some, Option.isNone_none, Option.isSome_none, Int.not_lt, Int.not_le, beq_iff_eq, beq_eq_false_iff_ne, bne_iff_ne, ne_eq, Bool.not_not, Decidable.not_not] at h43
      have hacc : (acV xs).1 = true := by simpa using h43
      have hall := (acc_all hvb).1 hacc
      have hr := hall cs
      have hR1 : (runR xs cs).1 = sNone := by unfold runR; rw [if_pos hvb]; exact hr
      have hS0 : (strV xs cs).2 = 0 := by unfold strV; rw [if_pos hvb]
      have hF0 : (frV xs cs).2 = 0 := by unfold frV; rw [if_pos hvb]
      have hL0 : (lkV xs cs).2 = 0 := by unfold lkV; rw [if_pos hvb]
      have hfr : (frV xs cs).1 = fz (endV xs cs).freed := by unfold frV; rw [if_pos hvb]
      have hlk : (lkV xs cs).1 = (lk (endV xs cs).alive (endV xs cs).alive.length) := by unfold lkV; rw [if_pos hvb]
      have g := endV_good (cs := cs) (valid_open hvb)
      have hD60 := strV_len xs cs
      have hRL := raws_le (strV xs cs).1
      have hEL := end_len (cs := cs) hvb hr
      have hn21 := g.n21
      have hfzl := fz_len (endV xs cs).freed
      have hfle := freed_le g
      have hlkl := lk_len (endV xs cs).alive (endV xs cs).alive.length
      have hdl := dead_lk g.a0 (rawsOf (strV xs cs).1).length
      have hfd := freed_dead g
      rw [hEL, Nat.add_sub_cancel] at hfd
      rw [← hfd, ← hEL] at hdl
      refine J.condF rfl rfl ?_
      refine J.skip rfl ?_
      refine J.seq rfl ?_
      refine J.region rfl ?_
      refine JO.pur rfl rfl rfl (Pur.move rfl) ?_
      refine JO.pur rfl rfl rfl (Pur.move rfl) ?_
      refine JO.eff rfl rfl rfl (Eff.call rfl (Straight_ok (xs := xs) (cs := cs) rfl rfl hb)) ?_
      rintro _ _ ⟨a10, c10, rfl, rfl⟩
      refine JO.pur rfl rfl rfl (Pur.move rfl) ?_
      refine JO.pur rfl rfl rfl (Pur.extract rfl rfl) ?_
      refine JO.pur rfl rfl rfl (Pur.extract rfl rfl) ?_
      refine JO.pur rfl rfl rfl (Pur.assign rfl) ?_
      refine JO.pur rfl rfl rfl (Pur.assign rfl) ?_
      refine JO.nil ?_
      refine J.seq rfl ?_
      refine J.region rfl ?_
      refine JO.pur rfl rfl rfl (Pur.move rfl) ?_
      refine JO.pur rfl rfl rfl (Pur.move rfl) ?_
      refine JO.eff rfl rfl rfl (Eff.call rfl (Freed_ok (xs := xs) (cs := cs) rfl rfl hb)) ?_
      rintro _ _ ⟨a12, c12, rfl, rfl⟩
      refine JO.pur rfl rfl rfl (Pur.move rfl) ?_
      refine JO.pur rfl rfl rfl (Pur.extract rfl rfl) ?_
      refine JO.pur rfl rfl rfl (Pur.extract rfl rfl) ?_
      refine JO.pur rfl rfl rfl (Pur.assign rfl) ?_
      refine JO.pur rfl rfl rfl (Pur.assign rfl) ?_
      refine JO.nil ?_
      refine J.seq rfl ?_
      refine J.region rfl ?_
      refine JO.pur rfl rfl rfl (Pur.move rfl) ?_
      refine JO.pur rfl rfl rfl (Pur.move rfl) ?_
      refine JO.eff rfl rfl rfl (Eff.call rfl (Leaks_ok (xs := xs) (cs := cs) rfl rfl hb)) ?_
      rintro _ _ ⟨a14, c14, rfl, rfl⟩
      refine JO.pur rfl rfl rfl (Pur.move rfl) ?_
      refine JO.pur rfl rfl rfl (Pur.extract rfl rfl) ?_
      refine JO.pur rfl rfl rfl (Pur.extract rfl rfl) ?_
      refine JO.pur rfl rfl rfl (Pur.assign rfl) ?_
      refine JO.pur rfl rfl rfl (Pur.assign rfl) ?_
      refine JO.nil ?_
      refine J.seq rfl ?_
      refine J.seq rfl ?_
      refine J.region rfl ?_
      refine JO.pur rfl rfl rfl (Pur.move rfl) ?_
      refine JO.pur rfl rfl rfl (Pur.neqT rfl rfl) ?_
      refine JO.setv (u' := .bool false) 64 rfl (congrArg Value.bool (by rw [hR1]; rfl)) ?_
      refine JO.pur rfl rfl rfl (Pur.move rfl) ?_
      refine JO.pur rfl rfl rfl (Pur.move rfl) ?_
      refine JO.pur rfl rfl rfl (Pur.neqI rfl rfl) ?_
      refine JO.setv (u' := .bool false) 67 rfl (congrArg Value.bool (by rw [hS0]; rfl)) ?_
      refine JO.pur rfl rfl rfl (Pur.pickF rfl rfl) ?_
      refine JO.pur rfl rfl rfl (Pur.move rfl) ?_
      refine JO.pur rfl rfl rfl (Pur.move rfl) ?_
      refine JO.pur rfl rfl rfl (Pur.neqI rfl rfl) ?_
      refine JO.setv (u' := .bool false) 71 rfl (congrArg Value.bool (by rw [hF0]; rfl)) ?_
      refine JO.pur rfl rfl rfl (Pur.pickF rfl rfl) ?_
      refine JO.pur rfl rfl rfl (Pur.move rfl) ?_
      refine JO.pur rfl rfl rfl (Pur.move rfl) ?_
      refine JO.pur rfl rfl rfl (Pur.neqI rfl rfl) ?_
      refine JO.setv (u' := .bool false) 75 rfl (congrArg Value.bool (by rw [hL0]; rfl)) ?_
      refine JO.pur rfl rfl rfl (Pur.pickF rfl rfl) ?_
      refine JO.nil ?_
      refine J.condF rfl rfl ?_
      refine J.skip rfl ?_
      refine J.seq rfl ?_
      rw [hfr, hlk]
      refine J.region rfl ?_
      refine JO.pur rfl rfl rfl (Pur.assign rfl) ?_
      refine JO.nil ?_
      refine J.seq rfl ?_
      refine J.seq rfl ?_
      refine J.region rfl ?_
      refine JO.pur rfl rfl rfl (Pur.assign rfl) ?_
      refine JO.nil ?_
      refine J.block rfl ?_
      refine J.loopF (ι := Nat × Option Addr × Nat) (fun q => q.1 ≤ (strV xs cs).1.length) (fun q => [(16, .slice q.2.1 (rawsOf ((strV xs cs).1.take q.1)).length q.2.2), (17, .int .i64 (q.1 : Int))]) [(10, _), (12, _), (14, _)] (fun q => sl boolE q.2.1 q.2.2 (rawsOf ((strV xs cs).1.take q.1)) :: sl deedE a10 c10 (strV xs cs).1 :: sl intE a12 c12 (fz (endV xs cs).freed) :: sl intE a14 c14 (lk (endV xs cs).alive (endV xs cs).alive.length) :: L) (fun q => (strV xs cs).1.length - q.1) (0, none, 0) rfl (.cons rfl rfl (.cons rfl rfl (.cons rfl rfl .nil))) (.cons rfl rfl (.cons rfl rfl .nil)) (fun h s => by dsimp only; rw [List.take_zero, show rawsOf [] = [] from rfl]; exact SubC.out h (sl_nil_new (E := boolE) s)) (Nat.zero_le _) ?_
      rintro ⟨i, a16, c16⟩ hi ih0
      try dsimp only
      dsimp only at hi
      have hri := raws_le ((strV xs cs).1.take i)
      have hti : ((strV xs cs).1.take i).length ≤ i := by simp; omega
      refine J.seq rfl ?_
      refine J.seq rfl ?_
      refine J.region rfl ?_
      refine JO.pur rfl rfl rfl (Pur.move rfl) ?_
      refine JO.pur rfl rfl rfl (Pur.move rfl) ?_
      refine JO.pur rfl rfl rfl (Pur.len rfl) ?_
      refine JO.pur rfl rfl rfl (Pur.lss rfl rfl) ?_
      refine JO.nil ?_
      refine J.splitB 80 rfl (fun h80 => ?_) (fun h80 => ?_)
      · try simp only [decide_eq_true_eq, decide_eq_false_iff_not, Bool.not_eq_true', Bool.not_eq_false', Bool.and_eq_true, Bool.or_eq_true, Bool.and_eq_false_iff, Bool.or_eq_false_iff, Option.isNone_some, Option.isSome_some, Option.isNone_none, Option.isSome_none, Int.not_lt, Int.not_le, beq_iff_eq, beq_eq_false_iff_ne, bne_iff_ne, ne_eq, Bool.not_not, Decidable.not_not] at h80
        have hil : i < (strV xs cs).1.length := by omega
        obtain ⟨d, hd⟩ : ∃ d, (strV xs cs).1[i]? = some d := ⟨_, List.getElem?_eq_getElem hil⟩
        have hnx0 := raws_next hd
        refine J.condT rfl rfl ?_
        refine J.skip rfl ?_
        refine J.seq rfl ?_
        refine J.block rfl ?_
        refine J.seq rfl ?_
        refine J.region rfl ?_
        refine JO.pur rfl rfl rfl (Pur.move rfl) ?_
        refine JO.pur rfl rfl rfl (Pur.move rfl) ?_
        refine JO.pur rfl rfl rfl (Pur.idx rfl rfl rfl (by first | rfl | (simp; done) | omega) rfl hil) ?_
        refine JO.pur rfl rfl rfl (Pur.fieldAddr rfl) ?_
        refine JO.pur rfl rfl rfl (Pur.load rfl (CellIn.el rfl hd rfl)) ?_
        refine JO.pur rfl rfl rfl (Pur.assign rfl) ?_
        refine JO.nil ?_
        refine J.seq rfl ?_
        refine J.region rfl ?_
        refine JO.pur rfl rfl rfl (Pur.move rfl) ?_
        refine JO.pur rfl rfl rfl (Pur.eqlT rfl rfl) ?_
        refine JO.pur rfl rfl rfl (Pur.move rfl) ?_
        refine JO.splitB 90 rfl (fun h90 => ?_) (fun h90 => ?_)
        · try simp only [decide_eq_true_eq, decide_eq_false_iff_not, Bool.not_eq_true', Bool.not_eq_false', Bool.and_eq_true, Bool.or_eq_true, Bool.and_eq_false_iff, Bool.or_eq_false_iff, Option.isNone_some, Option.isSome_some, Option.isNone_none, Option.isSome_none, Int.not_lt, Int.not_le, beq_iff_eq, beq_eq_false_iff_ne, bne_iff_ne, ne_eq, Bool.not_not, Decidable.not_not] at h90
          have h89 := h90
          have hmk : makesB d.act = true := by unfold makesB; simp [show d.act = sNew from h89]
          have hnx : rawsOf ((strV xs cs).1.take (i + 1)) = rawsOf ((strV xs cs).1.take i) ++ [decide (d.act = (⟨#[114, 97, 119]⟩ : ByteArray))] := by rw [hnx0, if_pos hmk]; rfl
          refine JO.no rfl rfl rfl ?_
          refine JO.no rfl rfl rfl ?_
          refine JO.pur rfl rfl rfl (Pur.pickT rfl rfl) ?_
          refine JO.pur rfl rfl rfl (Pur.move rfl) ?_
          refine JO.no rfl rfl rfl ?_
          refine JO.no rfl rfl rfl ?_
          refine JO.pur rfl rfl rfl (Pur.pickT rfl rfl) ?_
          refine JO.nil ?_
          refine J.condT rfl rfl ?_
          refine J.region rfl ?_
          refine JO.pur rfl rfl rfl (Pur.move rfl) ?_
          refine JO.pur rfl rfl rfl (Pur.move rfl) ?_
          refine JO.pur rfl rfl rfl (Pur.eqlT rfl rfl) ?_
          refine JO.eff rfl rfl rfl (Eff.buildSlice boolE [_] rfl rfl rfl rfl rfl rfl rfl) ?_
          rintro _ _ ⟨b101, rfl, -, rfl⟩
          refine JO.eff rfl rfl rfl (Eff.append rfl rfl rfl rfl (by first | rfl | omega | (simp; done) | (simp; omega)) (by first | rfl | omega | (simp; done) | (simp; omega)) (by decide) (by first | omega | (simp only [List.length_cons, List.length_nil]; omega) | (simp; omega)) (by first | omega | (simp only [List.length_cons, List.length_nil]; omega) | (simp; omega)) (fun h => by cases h)) ?_
          rintro _ _ ⟨a102, c102, rfl, rfl⟩
          refine JO.pur rfl rfl rfl (Pur.assign rfl) ?_
          refine JO.nil ?_
          refine J.inBlock ?_
          refine J.region rfl ?_
          refine JO.pur rfl rfl rfl (Pur.move rfl) ?_
          refine JO.pur rfl rfl rfl (Pur.add rfl rfl (wr64 (by omega))) ?_
          refine JO.pur rfl rfl rfl (Pur.assign rfl) ?_
          refine JO.nil ?_
          first
            | exact J.weaken (.cons rfl (by dsimp only; rw [hnx, List.length_append]) (.cons rfl (congrArg (Value.int .i64) (by first | rfl | (dsimp only; omega))) (.cons rfl rfl (.cons rfl rfl (.cons rfl rfl .nil))))) (fun h s => by dsimp only; rw [hnx]; exact SubC.out h s) (ih0 (i + 1, a102, c102) (by dsimp only; omega) (by dsimp only; omega))
            | exact J.weaken (.cons rfl (by dsimp only; rw [hnx]) (.cons rfl (congrArg (Value.int .i64) (by first | rfl | (dsimp only; omega))) (.cons rfl rfl (.cons rfl rfl (.cons rfl rfl .nil))))) (fun h s => by dsimp only; rw [hnx]; exact SubC.out h s) (ih0 (i + 1, a16, c16) (by dsimp only; omega) (by dsimp only; omega))
        · try simp only [decide_eq_true_eq, decide_eq_false_iff_not, Bool.not_eq_true', Bool.not_eq_false', Bool.and_eq_true, Bool.or_eq_true, Bool.and_eq_false_iff, Bool.or_eq_false_iff, Option.isNone_some, Option.isSome_some, Option.isNone_none, Option.isSome_none, Int.not_lt, Int.not_le, beq_iff_eq, beq_eq_false_iff_ne, bne_iff_ne, ne_eq, Bool.not_not, Decidable.not_not] at h90
          have h89 := h90
          refine JO.pur rfl rfl rfl (Pur.move rfl) ?_
          refine JO.pur rfl rfl rfl (Pur.eqlT rfl rfl) ?_
          refine JO.pur rfl rfl rfl (Pur.pickF rfl rfl) ?_
          refine JO.pur rfl rfl rfl (Pur.move rfl) ?_
          refine JO.splitB 94 rfl (fun h94 => ?_) (fun h94 => ?_)
          · try simp only [decide_eq_true_eq, decide_eq_false_iff_not, Bool.not_eq_true', Bool.not_eq_false', Bool.and_eq_true, Bool.or_eq_true, Bool.and_eq_false_iff, Bool.or_eq_false_iff, Option.isNone_some, Option.isSome_some, Option.isNone_none, Option.isSome_none, Int.not_lt, Int.not_le, beq_iff_eq, beq_eq_false_iff_ne, bne_iff_ne, ne_eq, Bool.not_not, Decidable.not_not] at h94
            have h92 := h94
            have hmk : makesB d.act = true := by unfold makesB; simp [show d.act = sShare from h92]
            have hnx : rawsOf ((strV xs cs).1.take (i + 1)) = rawsOf ((strV xs cs).1.take i) ++ [decide (d.act = (⟨#[114, 97, 119]⟩ : ByteArray))] := by rw [hnx0, if_pos hmk]; rfl
            refine JO.no rfl rfl rfl ?_
            refine JO.no rfl rfl rfl ?_
            refine JO.pur rfl rfl rfl (Pur.pickT rfl rfl) ?_
            refine JO.nil ?_
            refine J.condT rfl rfl ?_
            refine J.region rfl ?_
            refine JO.pur rfl rfl rfl (Pur.move rfl) ?_
            refine JO.pur rfl rfl rfl (Pur.move rfl) ?_
            refine JO.pur rfl rfl rfl (Pur.eqlT rfl rfl) ?_
            refine JO.eff rfl rfl rfl (Eff.buildSlice boolE [_] rfl rfl rfl rfl rfl rfl rfl) ?_
            rintro _ _ ⟨b101, rfl, -, rfl⟩
            refine JO.eff rfl rfl rfl (Eff.append rfl rfl rfl rfl (by first | rfl | omega | (simp; done) | (simp; omega)) (by first | rfl | omega | (simp; done) | (simp; omega)) (by decide) (by first | omega | (simp only [List.length_cons, List.length_nil]; omega) | (simp; omega)) (by first | omega | (simp only [List.length_cons, List.length_nil]; omega) | (simp; omega)) (fun h => by cases h)) ?_
            rintro _ _ ⟨a102, c102, rfl, rfl⟩
            refine JO.pur rfl rfl rfl (Pur.assign rfl) ?_
            refine JO.nil ?_
            refine J.inBlock ?_
            refine J.region rfl ?_
            refine JO.pur rfl rfl rfl (Pur.move rfl) ?_
            refine JO.pur rfl rfl rfl (Pur.add rfl rfl (wr64 (by omega))) ?_
            refine JO.pur rfl rfl rfl (Pur.assign rfl) ?_
            refine JO.nil ?_
            first
              | exact J.weaken (.cons rfl (by dsimp only; rw [hnx, List.length_append]) (.cons rfl (congrArg (Value.int .i64) (by first | rfl | (dsimp only; omega))) (.cons rfl rfl (.cons rfl rfl (.cons rfl rfl .nil))))) (fun h s => by dsimp only; rw [hnx]; exact SubC.out h s) (ih0 (i + 1, a102, c102) (by dsimp only; omega) (by dsimp only; omega))
              | exact J.weaken (.cons rfl (by dsimp only; rw [hnx]) (.cons rfl (congrArg (Value.int .i64) (by first | rfl | (dsimp only; omega))) (.cons rfl rfl (.cons rfl rfl (.cons rfl rfl .nil))))) (fun h s => by dsimp only; rw [hnx]; exact SubC.out h s) (ih0 (i + 1, a16, c16) (by dsimp only; omega) (by dsimp only; omega))
          · try simp only [decide_eq_true_eq, decide_eq_false_iff_not, Bool.not_eq_true', Bool.not_eq_false', Bool.and_eq_true, Bool.or_eq_true, Bool.and_eq_false_iff, Bool.or_eq_false_iff, Option.isNone_some, Option.isSome_some, Option.isNone_none, Option.isSome_none, Int.not_lt, Int.not_le, beq_iff_eq, beq_eq_false_iff_ne, bne_iff_ne, ne_eq, Bool.not_not, Decidable.not_not] at h94
            have h92 := h94
            refine JO.pur rfl rfl rfl (Pur.move rfl) ?_
            refine JO.pur rfl rfl rfl (Pur.eqlT rfl rfl) ?_
            refine JO.pur rfl rfl rfl (Pur.pickF rfl rfl) ?_
            refine JO.nil ?_
            refine J.splitB 97 rfl (fun h97 => ?_) (fun h97 => ?_)
            · try simp only [decide_eq_true_eq, decide_eq_false_iff_not, Bool.not_eq_true', Bool.not_eq_false', Bool.and_eq_true, Bool.or_eq_true, Bool.and_eq_false_iff, Bool.or_eq_false_iff, Option.isNone_some, Option.isSome_some, Option.isNone_none, Option.isSome_none, Int.not_lt, Int.not_le, beq_iff_eq, beq_eq_false_iff_ne, bne_iff_ne, ne_eq, Bool.not_not, Decidable.not_not] at h97
              have h96 := h97
              have hmk : makesB d.act = true := by unfold makesB; simp [show d.act = sRaw from h96]
              have hnx : rawsOf ((strV xs cs).1.take (i + 1)) = rawsOf ((strV xs cs).1.take i) ++ [decide (d.act = (⟨#[114, 97, 119]⟩ : ByteArray))] := by rw [hnx0, if_pos hmk]; rfl
              refine J.condT rfl rfl ?_
              refine J.region rfl ?_
              refine JO.pur rfl rfl rfl (Pur.move rfl) ?_
              refine JO.pur rfl rfl rfl (Pur.move rfl) ?_
              refine JO.pur rfl rfl rfl (Pur.eqlT rfl rfl) ?_
              refine JO.eff rfl rfl rfl (Eff.buildSlice boolE [_] rfl rfl rfl rfl rfl rfl rfl) ?_
              rintro _ _ ⟨b101, rfl, -, rfl⟩
              refine JO.eff rfl rfl rfl (Eff.append rfl rfl rfl rfl (by first | rfl | omega | (simp; done) | (simp; omega)) (by first | rfl | omega | (simp; done) | (simp; omega)) (by decide) (by first | omega | (simp only [List.length_cons, List.length_nil]; omega) | (simp; omega)) (by first | omega | (simp only [List.length_cons, List.length_nil]; omega) | (simp; omega)) (fun h => by cases h)) ?_
              rintro _ _ ⟨a102, c102, rfl, rfl⟩
              refine JO.pur rfl rfl rfl (Pur.assign rfl) ?_
              refine JO.nil ?_
              refine J.inBlock ?_
              refine J.region rfl ?_
              refine JO.pur rfl rfl rfl (Pur.move rfl) ?_
              refine JO.pur rfl rfl rfl (Pur.add rfl rfl (wr64 (by omega))) ?_
              refine JO.pur rfl rfl rfl (Pur.assign rfl) ?_
              refine JO.nil ?_
              first
                | exact J.weaken (.cons rfl (by dsimp only; rw [hnx, List.length_append]) (.cons rfl (congrArg (Value.int .i64) (by first | rfl | (dsimp only; omega))) (.cons rfl rfl (.cons rfl rfl (.cons rfl rfl .nil))))) (fun h s => by dsimp only; rw [hnx]; exact SubC.out h s) (ih0 (i + 1, a102, c102) (by dsimp only; omega) (by dsimp only; omega))
                | exact J.weaken (.cons rfl (by dsimp only; rw [hnx]) (.cons rfl (congrArg (Value.int .i64) (by first | rfl | (dsimp only; omega))) (.cons rfl rfl (.cons rfl rfl (.cons rfl rfl .nil))))) (fun h s => by dsimp only; rw [hnx]; exact SubC.out h s) (ih0 (i + 1, a16, c16) (by dsimp only; omega) (by dsimp only; omega))
            · try simp only [decide_eq_true_eq, decide_eq_false_iff_not, Bool.not_eq_true', Bool.not_eq_false', Bool.and_eq_true, Bool.or_eq_true, Bool.and_eq_false_iff, Bool.or_eq_false_iff, Option.isNone_some, Option.isSome_some, Option.isNone_none, Option.isSome_none, Int.not_lt, Int.not_le, beq_iff_eq, beq_eq_false_iff_ne, bne_iff_ne, ne_eq, Bool.not_not, Decidable.not_not] at h97
              have h96 := h97
              have hmk : ¬ makesB d.act = true := by unfold makesB; simp only [Bool.or_eq_true, decide_eq_true_eq]; rintro ((h | h) | h); exact h89 h; exact h92 h; exact h96 h
              have hnx : rawsOf ((strV xs cs).1.take (i + 1)) = rawsOf ((strV xs cs).1.take i) := by rw [hnx0, if_neg hmk, List.append_nil]
              refine J.condF rfl rfl ?_
              refine J.skip rfl ?_
              refine J.inBlock ?_
              refine J.region rfl ?_
              refine JO.pur rfl rfl rfl (Pur.move rfl) ?_
              refine JO.pur rfl rfl rfl (Pur.add rfl rfl (wr64 (by omega))) ?_
              refine JO.pur rfl rfl rfl (Pur.assign rfl) ?_
              refine JO.nil ?_
              first
                | exact J.weaken (.cons rfl (by dsimp only; rw [hnx, List.length_append]) (.cons rfl (congrArg (Value.int .i64) (by first | rfl | (dsimp only; omega))) (.cons rfl rfl (.cons rfl rfl (.cons rfl rfl .nil))))) (fun h s => by dsimp only; rw [hnx]; exact SubC.out h s) (ih0 (i + 1, a102, c102) (by dsimp only; omega) (by dsimp only; omega))
                | exact J.weaken (.cons rfl (by dsimp only; rw [hnx]) (.cons rfl (congrArg (Value.int .i64) (by first | rfl | (dsimp only; omega))) (.cons rfl rfl (.cons rfl rfl (.cons rfl rfl .nil))))) (fun h s => by dsimp only; rw [hnx]; exact SubC.out h s) (ih0 (i + 1, a16, c16) (by dsimp only; omega) (by dsimp only; omega))
      · try simp only [decide_eq_true_eq, decide_eq_false_iff_not, Bool.not_eq_true', Bool.not_eq_false', Bool.and_eq_true, Bool.or_eq_true, Bool.and_eq_false_iff, Bool.or_eq_false_iff, Option.isNone_some, Option.isSome_some, Option.isNone_none, Option.isSome_none, Int.not_lt, Int.not_le, beq_iff_eq, beq_eq_false_iff_ne, bne_iff_ne, ne_eq, Bool.not_not, Decidable.not_not] at h80
        refine J.condF rfl rfl ?_
        refine J.exit rfl rfl ?_
        refine J.seq rfl ?_
        obtain rfl : i = (strV xs cs).1.length := by omega
        rw [List.take_length]
        refine J.region rfl ?_
        refine JO.pur rfl rfl rfl (Pur.move rfl) ?_
        refine JO.pur rfl rfl rfl (Pur.len rfl) ?_
        refine JO.eff rfl rfl rfl (Eff.make intE 0 rfl rfl rfl rfl rfl (by decide) (by omega) (by omega)) ?_
        rintro _ _ ⟨b105, rfl, rfl⟩
        refine JO.pur rfl rfl rfl (Pur.assign rfl) ?_
        refine JO.nil ?_
        refine J.seq rfl ?_
        refine J.seq rfl ?_
        refine J.region rfl ?_
        refine JO.pur rfl rfl rfl (Pur.assign rfl) ?_
        refine JO.nil ?_
        refine J.block rfl ?_
        refine J.loopF (ι := Nat) (fun q => q ≤ (endV xs cs).freed.length) (fun q => [(20, .int .i64 (q : Int))]) [(12, _), (14, _), (16, _), (19, _)] (fun q => sl intE (some ⟨b105, 0, none⟩) (rawsOf (strV xs cs).1).length (tms (rawsOf (strV xs cs).1).length (endV xs cs).freed q) :: sl boolE a16 c16 (rawsOf (strV xs cs).1) :: sl deedE a10 c10 (strV xs cs).1 :: sl intE a12 c12 (fz (endV xs cs).freed) :: sl intE a14 c14 (lk (endV xs cs).alive (endV xs cs).alive.length) :: L) (fun q => (endV xs cs).freed.length - q) 0 rfl (.cons rfl rfl (.cons rfl rfl (.cons rfl rfl (.cons rfl rfl .nil)))) (.cons rfl rfl .nil) (fun h s => by rw [tms_zero]; exact SubC.out h s) (Nat.zero_le _) ?_
        rintro k hk ih1
        try dsimp only
        refine J.seq rfl ?_
        refine J.seq rfl ?_
        refine J.region rfl ?_
        refine JO.pur rfl rfl rfl (Pur.move rfl) ?_
        refine JO.pur rfl rfl rfl (Pur.move rfl) ?_
        refine JO.pur rfl rfl rfl (Pur.len rfl) ?_
        refine JO.pur rfl rfl rfl (Pur.lss rfl rfl) ?_
        refine JO.nil ?_
        refine J.splitB 109 rfl (fun h109 => ?_) (fun h109 => ?_)
        · try simp only [decide_eq_true_eq, decide_eq_false_iff_not, Bool.not_eq_true', Bool.not_eq_false', Bool.and_eq_true, Bool.or_eq_true, Bool.and_eq_false_iff, Bool.or_eq_false_iff, Option.isNone_some, Option.isSome_some, Option.isNone_none, Option.isSome_none, Int.not_lt, Int.not_le, beq_iff_eq, beq_eq_false_iff_ne, bne_iff_ne, ne_eq, Bool.not_not, Decidable.not_not] at h109
          have hkl : k < (endV xs cs).freed.length := by omega
          obtain ⟨w, hw⟩ : ∃ w, (endV xs cs).freed[k] = w + 1 := by
            have h1 := ((g.fmem _).1 (List.getElem_mem hkl)).1
            exact ⟨_, (Nat.succ_pred_eq_of_pos h1).symm⟩
          have hwl := ((g.fmem _).1 (List.getElem_mem hkl)).2.1
          rw [hw] at hwl
          have hwn : w < (rawsOf (strV xs cs).1).length := by omega
          have hx : (fz (endV xs cs).freed)[k]? = some ((w + 1 : Nat) : Int) := by unfold fz; rw [List.getElem?_map, List.getElem?_eq_getElem hkl, hw]; rfl
          have hw1 : ((w + 1 : Nat) : Int) - 1 = (w : Int) := by omega
          have hct : ((endV xs cs).freed.take k).count (w + 1) ≤ k := Nat.le_trans List.count_le_length (by simp; omega)
          have htl := tms_len (rawsOf (strV xs cs).1).length (endV xs cs).freed k
          refine J.condT rfl rfl ?_
          refine J.skip rfl ?_
          refine J.seq rfl ?_
          refine J.block rfl ?_
          refine J.seq rfl ?_
          refine J.seq rfl ?_
          refine J.region rfl ?_
          refine JO.pur rfl rfl rfl (Pur.move rfl) ?_
          refine JO.pur rfl rfl rfl (Pur.move rfl) ?_
          refine JO.pur rfl rfl rfl (Pur.idx rfl rfl rfl (by first | rfl | (simp; done) | omega) rfl (by omega)) ?_
          refine JO.pur rfl rfl rfl (Pur.load rfl (CellIn.el0 rfl hx rfl)) ?_
          refine JO.pur rfl rfl rfl (Pur.lss rfl rfl) ?_
          refine JO.setv (u' := .bool false) 116 rfl (congrArg Value.bool (decide_eq_false (by omega))) ?_
          refine JO.pur rfl rfl rfl (Pur.move rfl) ?_
          refine JO.pur rfl rfl rfl (Pur.move rfl) ?_
          refine JO.pur rfl rfl rfl (Pur.move rfl) ?_
          refine JO.pur rfl rfl rfl (Pur.idx rfl rfl rfl (by first | rfl | (simp; done) | omega) rfl (by omega)) ?_
          refine JO.pur rfl rfl rfl (Pur.load rfl (CellIn.el0 rfl hx rfl)) ?_
          refine JO.pur rfl rfl rfl (Pur.move rfl) ?_
          refine JO.pur rfl rfl rfl (Pur.len rfl) ?_
          refine JO.pur rfl rfl rfl (Pur.gtr rfl rfl) ?_
          refine JO.setv (u' := .bool false) 124 rfl (congrArg Value.bool (decide_eq_false (by omega))) ?_
          refine JO.pur rfl rfl rfl (Pur.pickF rfl rfl) ?_
          refine JO.nil ?_
          refine J.condF rfl rfl ?_
          refine J.skip rfl ?_
          refine J.region rfl ?_
          refine JO.pur rfl rfl rfl (Pur.move rfl) ?_
          refine JO.pur rfl rfl rfl (Pur.move rfl) ?_
          refine JO.pur rfl rfl rfl (Pur.move rfl) ?_
          refine JO.pur rfl rfl rfl (Pur.idx rfl rfl rfl (by first | rfl | (simp; done) | omega) rfl (by omega)) ?_
          refine JO.pur rfl rfl rfl (Pur.load rfl (CellIn.el0 rfl hx rfl)) ?_
          refine JO.pur rfl rfl rfl (Pur.sub rfl rfl (wr64 (by omega))) ?_
          refine JO.pur rfl rfl rfl (Pur.idx rfl rfl rfl (by first | rfl | (simp; done) | omega) hw1 (by omega)) ?_
          refine JO.pur rfl rfl rfl (Pur.load rfl (CellIn.el0 rfl (tms_get hwn) rfl)) ?_
          refine JO.pur rfl rfl rfl (Pur.add rfl rfl (wr64 (by omega))) ?_
          refine JO.pur rfl rfl rfl (Pur.idx rfl rfl rfl (by first | rfl | (simp; done) | omega) hw1 (by omega)) ?_
          refine JO.effN rfl rfl (Eff.storeS0 (z' := ((((endV xs cs).freed.take k).count (w + 1) : Nat) : Int) + 1) rfl rfl rfl rfl (tms_get hwn) .head) ?_
          rintro _ _ ⟨rfl, rfl⟩
          refine JO.nil ?_
          refine J.inBlock ?_
          refine J.region rfl ?_
          refine JO.pur rfl rfl rfl (Pur.move rfl) ?_
          refine JO.pur rfl rfl rfl (Pur.add rfl rfl (wr64 (by omega))) ?_
          refine JO.pur rfl rfl rfl (Pur.assign rfl) ?_
          refine JO.nil ?_
          exact J.weaken (.cons rfl (congrArg (Value.int .i64) (by first | rfl | (dsimp only; omega))) (.cons rfl rfl (.cons rfl rfl (.cons rfl rfl (.cons rfl rfl .nil))))) (fun h s => by rw [tms_succ hkl hw hwn] at s; exact SubC.out h s) (ih1 (k + 1) (by omega) (by omega))
        · try simp only [decide_eq_true_eq, decide_eq_false_iff_not, Bool.not_eq_true', Bool.not_eq_false', Bool.and_eq_true, Bool.or_eq_true, Bool.and_eq_false_iff, Bool.or_eq_false_iff, Option.isNone_some, Option.isSome_some, Option.isNone_none, Option.isSome_none, Int.not_lt, Int.not_le, beq_iff_eq, beq_eq_false_iff_ne, bne_iff_ne, ne_eq, Bool.not_not, Decidable.not_not] at h109
          refine J.condF rfl rfl ?_
          refine J.exit rfl rfl ?_
          refine J.seq rfl ?_
          refine J.seq rfl ?_
          obtain rfl : k = (endV xs cs).freed.length := by omega
          refine J.region rfl ?_
          refine JO.pur rfl rfl rfl (Pur.assign rfl) ?_
          refine JO.nil ?_
          refine J.block rfl ?_
          refine J.loopF (ι := Nat) (fun q => q ≤ (lk (endV xs cs).alive (endV xs cs).alive.length).length) (fun q => [(21, .int .i64 (q : Int))]) [(12, _), (14, _), (16, _), (19, _)] (fun q => sl intE (some ⟨b105, 0, none⟩) (rawsOf (strV xs cs).1).length (tms (rawsOf (strV xs cs).1).length (endV xs cs).freed (endV xs cs).freed.length) :: sl boolE a16 c16 (rawsOf (strV xs cs).1) :: sl deedE a10 c10 (strV xs cs).1 :: sl intE a12 c12 (fz (endV xs cs).freed) :: sl intE a14 c14 (lk (endV xs cs).alive (endV xs cs).alive.length) :: L) (fun q => (lk (endV xs cs).alive (endV xs cs).alive.length).length - q) 0 rfl (.cons rfl rfl (.cons rfl rfl (.cons rfl rfl (.cons rfl rfl .nil)))) (.cons rfl rfl .nil) (by first | exact fun _ h => h | exact SubC.out | (dsimp only; exact SubC.out)) (Nat.zero_le _) ?_
          rintro j hj ih2
          try dsimp only
          refine J.seq rfl ?_
          refine J.seq rfl ?_
          refine J.region rfl ?_
          refine JO.pur rfl rfl rfl (Pur.move rfl) ?_
          refine JO.pur rfl rfl rfl (Pur.move rfl) ?_
          refine JO.pur rfl rfl rfl (Pur.len rfl) ?_
          refine JO.pur rfl rfl rfl (Pur.lss rfl rfl) ?_
          refine JO.nil ?_
          refine J.splitB 139 rfl (fun h139 => ?_) (fun h139 => ?_)
          · try simp only [decide_eq_true_eq, decide_eq_false_iff_not, Bool.not_eq_true', Bool.not_eq_false', Bool.and_eq_true, Bool.or_eq_true, Bool.and_eq_false_iff, Bool.or_eq_false_iff, Option.isNone_some, Option.isSome_some, Option.isNone_none, Option.isSome_none, Int.not_lt, Int.not_le, beq_iff_eq, beq_eq_false_iff_ne, bne_iff_ne, ne_eq, Bool.not_not, Decidable.not_not] at h139
            have hjl : j < (lk (endV xs cs).alive (endV xs cs).alive.length).length := by omega
            obtain ⟨o0, ho1, ho2, ho3⟩ := lk_mem.1 (List.getElem_mem hjl)
            have ho4 : 1 ≤ o0 := by
              rcases Nat.eq_zero_or_pos o0 with h | h
              · subst h; rw [g.a0] at ho2; cases ho2
              · exact h
            obtain ⟨w, rfl⟩ : ∃ w, o0 = w + 1 := ⟨o0 - 1, by omega⟩
            have hx : (lk (endV xs cs).alive (endV xs cs).alive.length)[j]? = some ((w + 1 : Nat) : Int) := by rw [List.getElem?_eq_getElem hjl, ho3]
            have hw1 : ((w + 1 : Nat) : Int) - 1 = (w : Int) := by omega
            have hwn : w < (rawsOf (strV xs cs).1).length := by omega
            have hrw : (rawsOf (strV xs cs).1)[w]? = some true := by rw [raws_get hvb hr hwn, end_raw hvb hr ho1 ho2]; rfl
            have htl := tms_len (rawsOf (strV xs cs).1).length (endV xs cs).freed (endV xs cs).freed.length
            have htz : (tms (rawsOf (strV xs cs).1).length (endV xs cs).freed (endV xs cs).freed.length)[w]? = some 0 := by rw [tms_get hwn, List.take_length, count_none (fun hm => by have := ((g.fmem _).1 hm).2.2; rw [ho2] at this; cases this)]; rfl
            refine J.condT rfl rfl ?_
            refine J.skip rfl ?_
            refine J.seq rfl ?_
            refine J.block rfl ?_
            refine J.seq rfl ?_
            refine J.region rfl ?_
            refine JO.pur rfl rfl rfl (Pur.move rfl) ?_
            refine JO.pur rfl rfl rfl (Pur.move rfl) ?_
            refine JO.pur rfl rfl rfl (Pur.idx rfl rfl rfl (by first | rfl | (simp; done) | omega) rfl (by omega)) ?_
            refine JO.pur rfl rfl rfl (Pur.load rfl (CellIn.el0 rfl hx rfl)) ?_
            refine JO.pur rfl rfl rfl (Pur.lss rfl rfl) ?_
            refine JO.setv (u' := .bool false) 146 rfl (congrArg Value.bool (decide_eq_false (by omega))) ?_
            refine JO.pur rfl rfl rfl (Pur.move rfl) ?_
            refine JO.pur rfl rfl rfl (Pur.move rfl) ?_
            refine JO.pur rfl rfl rfl (Pur.move rfl) ?_
            refine JO.pur rfl rfl rfl (Pur.idx rfl rfl rfl (by first | rfl | (simp; done) | omega) rfl (by omega)) ?_
            refine JO.pur rfl rfl rfl (Pur.load rfl (CellIn.el0 rfl hx rfl)) ?_
            refine JO.pur rfl rfl rfl (Pur.move rfl) ?_
            refine JO.pur rfl rfl rfl (Pur.len rfl) ?_
            refine JO.pur rfl rfl rfl (Pur.gtr rfl rfl) ?_
            refine JO.setv (u' := .bool false) 154 rfl (congrArg Value.bool (decide_eq_false (by omega))) ?_
            refine JO.pur rfl rfl rfl (Pur.pickF rfl rfl) ?_
            refine JO.pur rfl rfl rfl (Pur.move rfl) ?_
            refine JO.pur rfl rfl rfl (Pur.move rfl) ?_
            refine JO.pur rfl rfl rfl (Pur.move rfl) ?_
            refine JO.pur rfl rfl rfl (Pur.move rfl) ?_
            refine JO.pur rfl rfl rfl (Pur.idx rfl rfl rfl (by first | rfl | (simp; done) | omega) rfl (by omega)) ?_
            refine JO.pur rfl rfl rfl (Pur.load rfl (CellIn.el0 rfl hx rfl)) ?_
            refine JO.pur rfl rfl rfl (Pur.sub rfl rfl (wr64 (by omega))) ?_
            refine JO.pur rfl rfl rfl (Pur.idx rfl rfl rfl (by first | rfl | (simp; done) | omega) hw1 hwn) ?_
            refine JO.pur rfl rfl rfl (Pur.load rfl (CellIn.el0 rfl hrw rfl)) ?_
            refine JO.pur rfl rfl rfl (Pur.not rfl) ?_
            refine JO.setv (u' := .bool false) 165 rfl (congrArg Value.bool (rfl)) ?_
            refine JO.pur rfl rfl rfl (Pur.pickF rfl rfl) ?_
            refine JO.pur rfl rfl rfl (Pur.move rfl) ?_
            refine JO.pur rfl rfl rfl (Pur.move rfl) ?_
            refine JO.pur rfl rfl rfl (Pur.move rfl) ?_
            refine JO.pur rfl rfl rfl (Pur.move rfl) ?_
            refine JO.pur rfl rfl rfl (Pur.idx rfl rfl rfl (by first | rfl | (simp; done) | omega) rfl (by omega)) ?_
            refine JO.pur rfl rfl rfl (Pur.load rfl (CellIn.el0 rfl hx rfl)) ?_
            refine JO.pur rfl rfl rfl (Pur.sub rfl rfl (wr64 (by omega))) ?_
            refine JO.pur rfl rfl rfl (Pur.idx rfl rfl rfl (by first | rfl | (simp; done) | omega) hw1 (by omega)) ?_
            refine JO.pur rfl rfl rfl (Pur.load rfl (CellIn.el0 rfl htz rfl)) ?_
            refine JO.pur rfl rfl rfl (Pur.neqI rfl rfl) ?_
            refine JO.setv (u' := .bool false) 176 rfl (congrArg Value.bool (rfl)) ?_
            refine JO.pur rfl rfl rfl (Pur.pickF rfl rfl) ?_
            refine JO.nil ?_
            refine J.condF rfl rfl ?_
            refine J.skip rfl ?_
            refine J.inBlock ?_
            refine J.region rfl ?_
            refine JO.pur rfl rfl rfl (Pur.move rfl) ?_
            refine JO.pur rfl rfl rfl (Pur.add rfl rfl (wr64 (by omega))) ?_
            refine JO.pur rfl rfl rfl (Pur.assign rfl) ?_
            refine JO.nil ?_
            exact J.weaken (.cons rfl (congrArg (Value.int .i64) (by first | rfl | (dsimp only; omega))) (.cons rfl rfl (.cons rfl rfl (.cons rfl rfl (.cons rfl rfl .nil))))) (by first | exact fun _ h => h | exact SubC.out | (dsimp only; exact SubC.out)) (ih2 (j + 1) (by omega) (by omega))
          · try simp only [decide_eq_true_eq, decide_eq_false_iff_not, Bool.not_eq_true', Bool.not_eq_false', Bool.and_eq_true, Bool.or_eq_true, Bool.and_eq_false_iff, Bool.or_eq_false_iff, Option.isNone_some, Option.isSome_some, Option.isNone_none, Option.isSome_none, Int.not_lt, Int.not_le, beq_iff_eq, beq_eq_false_iff_ne, bne_iff_ne, ne_eq, Bool.not_not, Decidable.not_not] at h139
            refine J.condF rfl rfl ?_
            refine J.exit rfl rfl ?_
            refine J.seq rfl ?_
            refine J.seq rfl ?_
            refine J.region rfl ?_
            refine JO.pur rfl rfl rfl (Pur.assign rfl) ?_
            refine JO.nil ?_
            refine J.block rfl ?_
            refine J.loopF (ι := Nat) (fun q => q ≤ (rawsOf (strV xs cs).1).length) (fun q => [(22, .int .i64 (q : Int))]) [(12, _), (14, _), (16, _), (19, _)] (fun q => sl intE (some ⟨b105, 0, none⟩) (rawsOf (strV xs cs).1).length (tms (rawsOf (strV xs cs).1).length (endV xs cs).freed (endV xs cs).freed.length) :: sl boolE a16 c16 (rawsOf (strV xs cs).1) :: sl deedE a10 c10 (strV xs cs).1 :: sl intE a12 c12 (fz (endV xs cs).freed) :: sl intE a14 c14 (lk (endV xs cs).alive (endV xs cs).alive.length) :: L) (fun q => (rawsOf (strV xs cs).1).length - q) 0 rfl (.cons rfl rfl (.cons rfl rfl (.cons rfl rfl (.cons rfl rfl .nil)))) (.cons rfl rfl .nil) (by first | exact fun _ h => h | exact SubC.out | (dsimp only; exact SubC.out)) (Nat.zero_le _) ?_
            rintro w hw ih3
            try dsimp only
            refine J.seq rfl ?_
            refine J.seq rfl ?_
            refine J.region rfl ?_
            refine JO.pur rfl rfl rfl (Pur.move rfl) ?_
            refine JO.pur rfl rfl rfl (Pur.move rfl) ?_
            refine JO.pur rfl rfl rfl (Pur.len rfl) ?_
            refine JO.pur rfl rfl rfl (Pur.lss rfl rfl) ?_
            refine JO.nil ?_
            refine J.splitB 181 rfl (fun h181 => ?_) (fun h181 => ?_)
            · try simp only [decide_eq_true_eq, decide_eq_false_iff_not, Bool.not_eq_true', Bool.not_eq_false', Bool.and_eq_true, Bool.or_eq_true, Bool.and_eq_false_iff, Bool.or_eq_false_iff, Option.isNone_some, Option.isSome_some, Option.isNone_none, Option.isSome_none, Int.not_lt, Int.not_le, beq_iff_eq, beq_eq_false_iff_ne, bne_iff_ne, ne_eq, Bool.not_not, Decidable.not_not] at h181
              have hwn : w < (rawsOf (strV xs cs).1).length := by omega
              have htl := tms_len (rawsOf (strV xs cs).1).length (endV xs cs).freed (endV xs cs).freed.length
              have hc1 := count_le1 g.fnd (w + 1)
              have htw : (tms (rawsOf (strV xs cs).1).length (endV xs cs).freed (endV xs cs).freed.length)[w]? = some (((endV xs cs).freed.count (w + 1) : Nat) : Int) := by rw [tms_get hwn, List.take_length]
              have hrw := raws_get hvb hr hwn
              refine J.condT rfl rfl ?_
              refine J.skip rfl ?_
              refine J.seq rfl ?_
              refine J.block rfl ?_
              refine J.seq rfl ?_
              refine J.region rfl ?_
              refine JO.pur rfl rfl rfl (Pur.move rfl) ?_
              refine JO.pur rfl rfl rfl (Pur.move rfl) ?_
              refine JO.pur rfl rfl rfl (Pur.idx rfl rfl rfl (by first | rfl | (simp; done) | omega) rfl (by omega)) ?_
              refine JO.pur rfl rfl rfl (Pur.load rfl (CellIn.el0 rfl htw rfl)) ?_
              refine JO.pur rfl rfl rfl (Pur.gtr rfl rfl) ?_
              refine JO.setv (u' := .bool false) 188 rfl (congrArg Value.bool (decide_eq_false (by omega))) ?_
              refine JO.pur rfl rfl rfl (Pur.move rfl) ?_
              refine JO.pur rfl rfl rfl (Pur.move rfl) ?_
              refine JO.pur rfl rfl rfl (Pur.move rfl) ?_
              refine JO.pur rfl rfl rfl (Pur.idx rfl rfl rfl (by first | rfl | (simp; done) | omega) rfl hwn) ?_
              refine JO.pur rfl rfl rfl (Pur.load rfl (CellIn.el0 rfl hrw rfl)) ?_
              refine JO.pur rfl rfl rfl (Pur.not rfl) ?_
              refine JO.pur rfl rfl rfl (Pur.move rfl) ?_
              refine JO.splitB 195 rfl (fun h195 => ?_) (fun h195 => ?_)
              · try simp only [decide_eq_true_eq, decide_eq_false_iff_not, Bool.not_eq_true', Bool.not_eq_false', Bool.and_eq_true, Bool.or_eq_true, Bool.and_eq_false_iff, Bool.or_eq_false_iff, Option.isNone_some, Option.isSome_some, Option.isNone_none, Option.isSome_none, Int.not_lt, Int.not_le, beq_iff_eq, beq_eq_false_iff_ne, bne_iff_ne, ne_eq, Bool.not_not, Decidable.not_not] at h195
                have hb195 := h195
                have hnk : ¬ (endV xs cs).kind.getD (w + 1) 0 = 4 := by simpa using hb195
                have hin : w + 1 ∈ (endV xs cs).freed := by
                  refine (g.fmem _).2 ⟨by omega, by omega, ?_⟩
                  cases ha : (endV xs cs).alive.getD (w + 1) false with
                  | false => rfl
                  | true => exact absurd (end_raw hvb hr (by omega) ha) hnk
                have hcp := List.count_pos_iff.2 hin
                refine JO.pur rfl rfl rfl (Pur.move rfl) ?_
                refine JO.pur rfl rfl rfl (Pur.move rfl) ?_
                refine JO.pur rfl rfl rfl (Pur.idx rfl rfl rfl (by first | rfl | (simp; done) | omega) rfl (by omega)) ?_
                refine JO.pur rfl rfl rfl (Pur.load rfl (CellIn.el0 rfl htw rfl)) ?_
                refine JO.pur rfl rfl rfl (Pur.neqI rfl rfl) ?_
                refine JO.setv (u' := .bool false) 200 rfl (congrArg Value.bool (decide_eq_false (by omega))) ?_
                refine JO.pur rfl rfl rfl (Pur.pickT rfl rfl) ?_
                refine JO.pur rfl rfl rfl (Pur.pickF rfl rfl) ?_
                refine JO.nil ?_
                refine J.condF rfl rfl ?_
                refine J.skip rfl ?_
                refine J.inBlock ?_
                refine J.region rfl ?_
                refine JO.pur rfl rfl rfl (Pur.move rfl) ?_
                refine JO.pur rfl rfl rfl (Pur.add rfl rfl (wr64 (by omega))) ?_
                refine JO.pur rfl rfl rfl (Pur.assign rfl) ?_
                refine JO.nil ?_
                exact J.weaken (.cons rfl (congrArg (Value.int .i64) (by first | rfl | (dsimp only; omega))) (.cons rfl rfl (.cons rfl rfl (.cons rfl rfl (.cons rfl rfl .nil))))) (by first | exact fun _ h => h | exact SubC.out | (dsimp only; exact SubC.out)) (ih3 (w + 1) (by omega) (by omega))
              · try simp only [decide_eq_true_eq, decide_eq_false_iff_not, Bool.not_eq_true', Bool.not_eq_false', Bool.and_eq_true, Bool.or_eq_true, Bool.and_eq_false_iff, Bool.or_eq_false_iff, Option.isNone_some, Option.isSome_some, Option.isNone_none, Option.isSome_none, Int.not_lt, Int.not_le, beq_iff_eq, beq_eq_false_iff_ne, bne_iff_ne, ne_eq, Bool.not_not, Decidable.not_not] at h195
                refine JO.no rfl rfl rfl ?_
                refine JO.no rfl rfl rfl ?_
                refine JO.no rfl rfl rfl ?_
                refine JO.no rfl rfl rfl ?_
                refine JO.no rfl rfl rfl ?_
                refine JO.pur rfl rfl rfl (Pur.pickF rfl rfl) ?_
                refine JO.pur rfl rfl rfl (Pur.pickF rfl rfl) ?_
                refine JO.nil ?_
                refine J.condF rfl rfl ?_
                refine J.skip rfl ?_
                refine J.inBlock ?_
                refine J.region rfl ?_
                refine JO.pur rfl rfl rfl (Pur.move rfl) ?_
                refine JO.pur rfl rfl rfl (Pur.add rfl rfl (wr64 (by omega))) ?_
                refine JO.pur rfl rfl rfl (Pur.assign rfl) ?_
                refine JO.nil ?_
                exact J.weaken (.cons rfl (congrArg (Value.int .i64) (by first | rfl | (dsimp only; omega))) (.cons rfl rfl (.cons rfl rfl (.cons rfl rfl (.cons rfl rfl .nil))))) (by first | exact fun _ h => h | exact SubC.out | (dsimp only; exact SubC.out)) (ih3 (w + 1) (by omega) (by omega))
            · try simp only [decide_eq_true_eq, decide_eq_false_iff_not, Bool.not_eq_true', Bool.not_eq_false', Bool.and_eq_true, Bool.or_eq_true, Bool.and_eq_false_iff, Bool.or_eq_false_iff, Option.isNone_some, Option.isSome_some, Option.isNone_none, Option.isSome_none, Int.not_lt, Int.not_le, beq_iff_eq, beq_eq_false_iff_ne, bne_iff_ne, ne_eq, Bool.not_not, Decidable.not_not] at h181
              refine J.condF rfl rfl ?_
              refine J.exit rfl rfl ?_
              refine J.seq rfl ?_
              refine J.region rfl ?_
              refine JO.pur rfl rfl rfl (Pur.move rfl) ?_
              refine JO.pur rfl rfl rfl (Pur.len rfl) ?_
              refine JO.pur rfl rfl rfl (Pur.move rfl) ?_
              refine JO.pur rfl rfl rfl (Pur.len rfl) ?_
              refine JO.pur rfl rfl rfl (Pur.add rfl rfl (wr64 (by omega))) ?_
              refine JO.pur rfl rfl rfl (Pur.move rfl) ?_
              refine JO.pur rfl rfl rfl (Pur.len rfl) ?_
              refine JO.pur rfl rfl rfl (Pur.eqlI rfl rfl) ?_
              refine JO.setv (u' := .bool true) 210 rfl (congrArg Value.bool (decide_eq_true (by omega))) ?_
              refine JO.pur rfl rfl rfl (Pur.move rfl) ?_
              refine JO.effR rfl rfl rfl (Eff.call rfl (awake_ok)) ?_
              refine JO.setv (u' := .bool true) 212 rfl (congrArg Value.bool (rfl)) ?_
              refine JO.pur rfl rfl rfl (Pur.pickT rfl rfl) ?_
              refine JO.pur rfl rfl rfl (Pur.assign rfl) ?_
              refine JO.nil ?_
              refine J.ret rfl rfl ?_
              exact ⟨_, _, ⟨rfl, rfl⟩, rfl, SubC.out⟩

end Go.Proofs.Ythdaopmfgmojnaa
