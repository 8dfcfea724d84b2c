/-
  A part of the proof of the claim that this folder bears.
  This text: QPlays.
-/
import Derived.Test.YtnllgmfpejjcnaaQLaw2
import Derived.Test.YtnllgmfpejjcnaaK17
set_option linter.unusedVariables false
set_option linter.unusedSimpArgs false
namespace Go.Proofs.Ytnllgmfpejjcnaa
open Go Go.KK Qt

def actE : Enc (Int × Int × Int) := ⟨30, 3, fun p => [.int .i64 p.1, .int .i64 p.2.1, .int .i64 p.2.2], fun _ => rfl, fun s v h => by
  simp only [List.mem_cons, List.not_mem_nil, or_false] at h; rcases h with rfl | rfl | rfl <;> rfl⟩
theorem wf_run {n : Int} (h : 1 ≤ n ∧ n ≤ 8) (al : List (Int × Int × Int)) (i : Nat) (hl : al.length ≤ 200) : Wf (acts (init n.toNat) (al.take i)) 200 :=
  wf_mono (wf_acts (al.take i) (wf_init n.toNat (by omega) (by omega)) (by rw [List.length_take]; omega)) (by rw [List.length_take]; omega) (by omega)
theorem acts_next {σ : St} {al : List (Int × Int × Int)} {i : Nat} (h : i < al.length) : act (acts σ (al.take i)) al[i].1 al[i].2.1 al[i].2.2 = acts σ (al.take (i + 1)) := (acts_take h).symm

theorem plays_many {h0 : Hp} (n : Int) (a : Option Addr) (cap : Nat) (al : List (Int × Int × Int)) [Inp actE h0 a al] (hl : 200 < al.length) :
    CallS Try.prog 6 [.int .i64 n, .slice a al.length cap].toArray [inp h0] (fun v M => v = .bool true ∧ M = [inp h0]) := by
  refine CallS.enter Try.func6 rfl rfl rfl rfl rfl ?_
  refine J.seq rfl ?_
  refine J.region rfl ?_
  refine JO.pur rfl rfl rfl (Pur.assign rfl) ?_
  refine JO.nil ?_
  refine J.seq rfl ?_
  refine J.seq rfl ?_
  refine J.region rfl ?_
  refine JO.pur rfl rfl rfl (Pur.move rfl) ?_
  refine JO.effR rfl rfl rfl (Eff.call rfl (many_ok a _ _)) ?_
  refine JO.nil ?_
  refine J.setv (u' := .bool true) 9 rfl (congrArg Value.bool ((by simp; omega))) ?_
  refine J.condT rfl rfl ?_
  refine J.seq rfl ?_
  refine J.region rfl ?_
  refine JO.effR rfl rfl rfl (Eff.call rfl (first_ok)) ?_
  refine JO.pur rfl rfl rfl (Pur.assign rfl) ?_
  refine JO.nil ?_
  refine J.ret rfl rfl ?_
  exact ⟨rfl, rfl⟩

theorem plays_bad {h0 : Hp} (n : Int) (a : Option Addr) (cap : Nat) (al : List (Int × Int × Int)) [Inp actE h0 a al] (hl : al.length ≤ 200) (hn : n < 1 ∨ 8 < n) :
    CallS Try.prog 6 [.int .i64 n, .slice a al.length cap].toArray [inp h0] (fun v M => v = .bool true ∧ M = [inp h0]) := by
  refine CallS.enter Try.func6 rfl rfl rfl rfl rfl ?_
  refine J.seq rfl ?_
  refine J.region rfl ?_
  refine JO.pur rfl rfl rfl (Pur.assign rfl) ?_
  refine JO.nil ?_
  refine J.seq rfl ?_
  refine J.seq rfl ?_
  refine J.region rfl ?_
  refine JO.pur rfl rfl rfl (Pur.move rfl) ?_
  refine JO.effR rfl rfl rfl (Eff.call rfl (many_ok a _ _)) ?_
  refine JO.nil ?_
  refine J.setv (u' := .bool false) 9 rfl (congrArg Value.bool ((by simp; omega))) ?_
  refine J.condF rfl rfl ?_
  refine J.skip rfl ?_
  refine J.seq rfl ?_
  refine J.region rfl ?_
  refine JO.pur rfl rfl rfl (Pur.move rfl) ?_
  refine JO.effR rfl rfl rfl (Eff.call rfl (beginBad n hn)) ?_
  refine JO.pur rfl rfl rfl (Pur.move rfl) ?_
  refine JO.pur rfl rfl rfl (Pur.extract rfl rfl) ?_
  refine JO.pur rfl rfl rfl (Pur.extract rfl rfl) ?_
  refine JO.pur rfl rfl rfl (Pur.assign rfl) ?_
  refine JO.pur rfl rfl rfl (Pur.assign rfl) ?_
  refine JO.nil ?_
  refine J.seq rfl ?_
  refine J.seq rfl ?_
  refine J.region rfl ?_
  refine JO.pur rfl rfl rfl (Pur.move rfl) ?_
  refine JO.pur rfl rfl rfl (Pur.eqlPtrNil rfl) ?_
  refine JO.nil ?_
  refine J.setv (u' := .bool true) 17 rfl (congrArg Value.bool ((by simp))) ?_
  refine J.condT rfl rfl ?_
  refine J.seq rfl ?_
  refine J.region rfl ?_
  refine JO.pur rfl rfl rfl (Pur.move rfl) ?_
  refine JO.pur rfl rfl rfl (Pur.move rfl) ?_
  refine JO.setv (u' := .bool true) 19 rfl (congrArg Value.bool (rfl)) ?_
  refine JO.effR rfl rfl rfl (Eff.call rfl (first_ok)) ?_
  refine JO.pur rfl rfl rfl (Pur.pickT rfl rfl) ?_
  refine JO.pur rfl rfl rfl (Pur.assign rfl) ?_
  refine JO.nil ?_
  refine J.ret rfl rfl ?_
  exact ⟨rfl, rfl⟩

theorem plays_good {h0 : Hp} (n : Int) (a : Option Addr) (cap : Nat) (al : List (Int × Int × Int)) [Inp actE h0 a al] (hl : al.length ≤ 200) (hn : 1 ≤ n ∧ n ≤ 8) :
    CallS Try.prog 6 [.int .i64 n, .slice a al.length cap].toArray [inp h0] (fun v M => v = .bool true ∧ M = [inp h0]) := by
  refine CallS.ent ?_
  refine CallS.enter Try.func6 rfl rfl rfl rfl rfl ?_
  refine J.seq rfl ?_
  refine J.region rfl ?_
  refine JO.pur rfl rfl rfl (Pur.assign rfl) ?_
  refine JO.nil ?_
  refine J.seq rfl ?_
  refine J.seq rfl ?_
  refine J.region rfl ?_
  refine JO.pur rfl rfl rfl (Pur.move rfl) ?_
  refine JO.effR rfl rfl rfl (Eff.call rfl (many_ok a _ _)) ?_
  refine JO.nil ?_
  refine J.setv (u' := .bool false) 9 rfl (congrArg Value.bool ((by simp; omega))) ?_
  refine J.condF rfl rfl ?_
  refine J.skip rfl ?_
  refine J.seq rfl ?_
  refine J.region rfl ?_
  refine JO.pur rfl rfl rfl (Pur.move rfl) ?_
  refine JO.eff rfl rfl rfl (Eff.call rfl (beginGood n hn)) ?_
  rintro _ _ ⟨p, r, s, rfl, rfl⟩
  refine JO.pur rfl rfl rfl (Pur.move rfl) ?_
  refine JO.pur rfl rfl rfl (Pur.extract rfl rfl) ?_
  refine JO.pur rfl rfl rfl (Pur.extract rfl rfl) ?_
  refine JO.pur rfl rfl rfl (Pur.assign rfl) ?_
  refine JO.pur rfl rfl rfl (Pur.assign rfl) ?_
  refine JO.nil ?_
  refine J.seq rfl ?_
  refine J.seq rfl ?_
  refine J.region rfl ?_
  refine JO.pur rfl rfl rfl (Pur.move rfl) ?_
  refine JO.pur rfl rfl rfl (Pur.eqlPtrNil rfl) ?_
  refine JO.nil ?_
  refine J.setv (u' := .bool false) 17 rfl (congrArg Value.bool ((by simp))) ?_
  refine J.condF rfl rfl ?_
  refine J.skip rfl ?_
  refine J.seq rfl ?_
  refine J.seq rfl ?_
  refine J.region rfl ?_
  refine JO.pur rfl rfl rfl (Pur.move rfl) ?_
  refine JO.effR rfl rfl rfl (Eff.call rfl (alike_ok p r s _ 200 (wf_run hn al 0 hl))) ?_
  refine JO.pur rfl rfl rfl (Pur.not rfl) ?_
  refine JO.nil ?_
  refine J.setv (u' := .bool false) 24 rfl (congrArg Value.bool (rfl)) ?_
  refine J.condF rfl rfl ?_
  refine J.skip rfl ?_
  refine J.seq rfl ?_
  refine J.seq rfl ?_
  refine J.region rfl ?_
  refine JO.pur rfl rfl rfl (Pur.assign rfl) ?_
  refine JO.nil ?_
  refine J.block rfl ?_
  refine J.loopF (ι := Nat) (fun i => i ≤ al.length) (fun i => [(7, .int .i64 (i : Int))]) [(1, _), (5, _)] (fun i => [blk p (.cells #[.pointer (some ⟨r, 0, none⟩), .pointer (some ⟨s, 0, none⟩)] 35 (0, 0)), refA s (acts (init n.toNat) (al.take i)), ringA r (acts (init n.toNat) (al.take i)), inp h0]) (fun i => al.length - i) 0 rfl (.cons rfl rfl (.cons rfl rfl .nil)) (.cons rfl rfl .nil) (fun _ h => h) (Nat.zero_le _) ?_
  rintro i hi ih
  try dsimp only
  have hw := wf_run hn al i hl
  refine J.seq rfl ?_
  refine J.seq rfl ?_
  refine J.region rfl ?_
  refine JO.pur rfl rfl rfl (Pur.move rfl) ?_
  refine JO.pur rfl rfl rfl (Pur.move rfl) ?_
  refine JO.pur rfl rfl rfl (Pur.len rfl) ?_
  refine JO.pur rfl rfl rfl (Pur.lss rfl rfl) ?_
  refine JO.nil ?_
  refine J.splitB 28 rfl (fun h28 => ?_) (fun h28 => ?_)
  · try simp only [decide_eq_true_eq, decide_eq_false_iff_not, Bool.not_eq_true', Bool.not_eq_false', Bool.and_eq_true, Bool.or_eq_true, Bool.and_eq_false_iff, Bool.or_eq_false_iff, Option.isNone_some, Option.isSome_some, Option.isNone_none, Option.isSome_none, Int.not_lt, Int.not_le, beq_iff_eq, beq_eq_false_iff_ne, bne_iff_ne, ne_eq, Bool.not_not, Decidable.not_not] at h28
    refine J.condT rfl rfl ?_
    refine J.skip rfl ?_
    refine J.seq rfl ?_
    refine J.block rfl ?_
    refine J.seq rfl ?_
    refine J.region rfl ?_
    refine JO.pur rfl rfl rfl (Pur.move rfl) ?_
    refine JO.pur rfl rfl rfl (Pur.move rfl) ?_
    refine JO.pur rfl rfl rfl (Pur.move rfl) ?_
    refine JO.pur rfl rfl rfl (Pur.idx rfl rfl rfl (by first | rfl | simp) rfl (by omega)) ?_
    refine JO.pur rfl rfl rfl (Pur.loadA rfl rfl rfl (CellsIn.el rfl (List.getElem?_eq_getElem (by omega)))) ?_
    refine JO.eff rfl rfl rfl (Eff.call rfl (do_ok p r s _ 200 hw _ _ _)) ?_
    rintro _ _ ⟨rfl, rfl⟩
    refine JO.pur rfl rfl rfl (Pur.not rfl) ?_
    refine JO.pur rfl rfl rfl (Pur.move rfl) ?_
    refine JO.setv (u' := .bool false) 38 rfl (congrArg Value.bool (rfl)) ?_
    refine JO.pur rfl rfl rfl (Pur.move rfl) ?_
    refine JO.effR rfl rfl rfl (Eff.call rfl (alike_ok p r s _ 200 (by rw [acts_next (by omega)]; exact wf_run hn al (i + 1) hl))) ?_
    refine JO.pur rfl rfl rfl (Pur.not rfl) ?_
    refine JO.pur rfl rfl rfl (Pur.pickF rfl rfl) ?_
    refine JO.nil ?_
    refine J.setv (u' := .bool false) 42 rfl (congrArg Value.bool (rfl)) ?_
    refine J.condF rfl rfl ?_
    refine J.skip rfl ?_
    refine J.inBlock ?_
    refine J.region rfl ?_
    refine JO.pur rfl rfl rfl (Pur.move rfl) ?_
    refine JO.pur rfl rfl rfl (Pur.add rfl rfl (wr64 (by omega))) ?_
    refine JO.pur rfl rfl rfl (Pur.assign rfl) ?_
    refine JO.nil ?_
    exact J.weaken (.cons rfl (congrArg (Value.int .i64) (by omega)) (.cons rfl rfl (.cons rfl rfl .nil))) (fun h hs => by rw [← acts_next (by omega)]; exact hs) (ih (i + 1) (by omega) (by omega))
  · try simp only [decide_eq_true_eq, decide_eq_false_iff_not, Bool.not_eq_true', Bool.not_eq_false', Bool.and_eq_true, Bool.or_eq_true, Bool.and_eq_false_iff, Bool.or_eq_false_iff, Option.isNone_some, Option.isSome_some, Option.isNone_none, Option.isSome_none, Int.not_lt, Int.not_le, beq_iff_eq, beq_eq_false_iff_ne, bne_iff_ne, ne_eq, Bool.not_not, Decidable.not_not] at h28
    refine J.condF rfl rfl ?_
    refine J.exit rfl rfl ?_
    refine J.seq rfl ?_
    refine J.region rfl ?_
    refine JO.effR rfl rfl rfl (Eff.call rfl (first_ok)) ?_
    refine JO.pur rfl rfl rfl (Pur.assign rfl) ?_
    refine JO.nil ?_
    refine J.ret rfl rfl ?_
    exact ⟨_, _, ⟨rfl, rfl⟩, rfl, fun h hs => hs.tail.tail.tail⟩

theorem plays_ok {h0 : Hp} (n : Int) (a : Option Addr) (cap : Nat) (al : List (Int × Int × Int)) [Inp actE h0 a al] :
    CallS Try.prog 6 [.int .i64 n, .slice a al.length cap].toArray [inp h0] (fun v M => v = .bool true ∧ M = [inp h0]) := by
  by_cases hl : 200 < al.length
  · exact plays_many n a cap al hl
  · by_cases hn : 1 ≤ n ∧ n ≤ 8
    · exact plays_good n a cap al (by omega) hn
    · exact plays_bad n a cap al (by omega) (by omega)
end Go.Proofs.Ytnllgmfpejjcnaa
