/-
  A part of the proof of the claim that this folder bears.
  This text: QCopies.
-/
import Derived.Test.YtnllgmfpejjcnaaQSame2
import Derived.Test.YtnllgmfpejjcnaaQCopy
import Derived.Test.YtnllgmfpejjcnaaQPlays
set_option linter.unusedVariables false
set_option linter.unusedSimpArgs false
namespace Go.Proofs.Ytnllgmfpejjcnaa
open Go Go.KK Qt

theorem copy_at {L : List Asn} {r : Nat} {σ : St} {f : Asn → List Asn} [hh : RingAt L r σ f] {N : Nat} (hw : Wf σ N) : CallS Try.prog 28 [.pointer (some ⟨r, 0, none⟩)].toArray L (fun v M => ∃ q, v = .pointer (some ⟨q, 0, none⟩) ∧ M = ringA q σ :: L) :=
  (CallS.atN (Q := fun v B => ∃ q, v = .pointer (some ⟨q, 0, none⟩) ∧ B = ringA q σ) (fun R => copy_core r σ N hw) hh.out).mono fun v M ⟨B, ⟨q, e1, e2⟩, e3⟩ => ⟨M, ⟨q, e1, by rw [e3, e2]⟩, fun _ h => h⟩
theorem fcopy_at {L : List Asn} {r : Nat} {σ : St} {f : Asn → List Asn} [hh : RefAt L r σ f] {N : Nat} (hw : Wf σ N) : CallS Try.prog 29 [.pointer (some ⟨r, 0, none⟩)].toArray L (fun v M => ∃ q, v = .pointer (some ⟨q, 0, none⟩) ∧ M = refA q σ :: L) :=
  (CallS.atN (Q := fun v B => ∃ q, v = .pointer (some ⟨q, 0, none⟩) ∧ B = refA q σ) (fun R => fcopy_core r σ N hw) hh.out).mono fun v M ⟨B, ⟨q, e1, e2⟩, e3⟩ => ⟨M, ⟨q, e1, by rw [e3, e2]⟩, fun _ h => h⟩
theorem same_pull {L R1 R2 : List Asn} {r q : Nat} {σ τ : St} {N M : Nat} (h1 : Pull (ringA r σ) L R1) (h2 : Pull (ringA q τ) R1 R2) (hw : Wf σ N) (hv : Wf τ M) :
    CallS Try.prog 30 [.pointer (some ⟨r, 0, none⟩), .pointer (some ⟨q, 0, none⟩)].toArray L (fun v M => v = .bool (decide (σ = τ)) ∧ M = L) := by
  have key : CallS Try.prog 30 [.pointer (some ⟨r, 0, none⟩), .pointer (some ⟨q, 0, none⟩)].toArray (ringA r σ :: ringA q τ :: R2) (fun v M => v = .bool (decide (σ = τ)) ∧ M = ringA r σ :: ringA q τ :: R2) := by
    refine ring_in fun a b c d _ => ?_
    refine CallS.pre (L := ringA q τ :: blk r (.cells #[.slice a σ.spots.length c, .slice b σ.fly.length d, .int .i64 σ.pos, .int .i64 σ.sum, .bool σ.dark, .bool σ.fresh, .bool σ.told, .int .i64 σ.passes] 45 (0, 0)) :: sl spotE a c σ.spots :: sl pairE b d σ.fly :: R2) ?_ (fun h hs => (Sat.pull (.tail (.tail (.tail .head))) (Sat.pull (.tail (.tail .head)) (Sat.pull (.tail (.tail .head)) (Sat.pull (.tail (.tail .head)) hs)))))
    refine ring_in fun a' b' c' d' _ => ?_
    exact (same_core hw hv).mono fun v M ⟨e1, e2⟩ => ⟨_, ⟨e1, rfl⟩, fun h hs => by
      rw [e2] at hs
      have hs := ring_shut rfl rfl hs
      have hs := ring_shut (r := r) (σ := σ) (R := ringA q τ :: R2) rfl rfl (Sat.pull (.tail (.tail (.tail .head))) (Sat.pull (.tail (.tail (.tail .head))) (Sat.pull (.tail (.tail (.tail .head))) (Sat.pull .head hs))))
      exact hs⟩
  have hp : L.Perm (ringA r σ :: ringA q τ :: R2) := h1.perm.trans (h2.perm.cons _)
  exact (key.pre (fun h hs => hs.perm hp)).mono fun v M ⟨e1, e2⟩ => ⟨L, ⟨e1, rfl⟩, fun h hs => by rw [e2] at hs; exact hs.perm hp.symm⟩
theorem fsame_pull {L R1 R2 : List Asn} {r q : Nat} {σ τ : St} {N M : Nat} (h1 : Pull (refA r σ) L R1) (h2 : Pull (refA q τ) R1 R2) (hw : Wf σ N) (hv : Wf τ M) :
    CallS Try.prog 31 [.pointer (some ⟨r, 0, none⟩), .pointer (some ⟨q, 0, none⟩)].toArray L (fun v M => v = .bool (decide (σ = τ)) ∧ M = L) := by
  have key : CallS Try.prog 31 [.pointer (some ⟨r, 0, none⟩), .pointer (some ⟨q, 0, none⟩)].toArray (refA r σ :: refA q τ :: R2) (fun v M => v = .bool (decide (σ = τ)) ∧ M = refA r σ :: refA q τ :: R2) := by
    refine ref_in fun a1x a2x a3x a4x c1x c2x c3x c4x => ?_
    refine CallS.pre (L := refA q τ :: blk r (.cells #[.int .i64 σ.spots.length, .slice a1x σ.spots.length c1x, .slice a2x σ.spots.length c2x, .slice a3x σ.spots.length c3x, .slice a4x σ.fly.length c4x, .int .i64 σ.pos, .int .i64 σ.sum, .bool σ.dark, .bool σ.fresh, .bool σ.told, .int .i64 σ.passes] 64 (0, 0)) :: sl boolE a1x c1x (σ.spots.map (·.active)) :: sl boolE a2x c2x (σ.spots.map (·.black)) :: sl intE a3x c3x (σ.spots.map (·.count)) :: sl pairE a4x c4x σ.fly :: R2) ?_ (fun h hs => (Sat.pull (.tail (.tail (.tail (.tail (.tail .head))))) (Sat.pull (.tail (.tail (.tail (.tail .head)))) (Sat.pull (.tail (.tail (.tail (.tail .head)))) (Sat.pull (.tail (.tail (.tail (.tail .head)))) (Sat.pull (.tail (.tail (.tail (.tail .head)))) (Sat.pull (.tail (.tail (.tail (.tail .head)))) hs)))))))
    refine ref_in fun a1y a2y a3y a4y c1y c2y c3y c4y => ?_
    exact (fsame_core hw hv).mono fun v M ⟨e1, e2⟩ => ⟨_, ⟨e1, rfl⟩, fun h hs => by
      rw [e2] at hs
      have hs := ref_shut (r := q) (σ := τ) hs rfl rfl rfl rfl rfl rfl rfl
      have hs := ref_shut (r := r) (σ := σ) (R := refA q τ :: R2) (Sat.pull (.tail (.tail (.tail (.tail (.tail .head))))) (Sat.pull (.tail (.tail (.tail (.tail (.tail .head))))) (Sat.pull (.tail (.tail (.tail (.tail (.tail .head))))) (Sat.pull (.tail (.tail (.tail (.tail (.tail .head))))) (Sat.pull (.tail (.tail (.tail (.tail (.tail .head))))) (Sat.pull .head hs)))))) rfl rfl rfl rfl rfl rfl rfl
      exact hs⟩
  have hp : L.Perm (refA r σ :: refA q τ :: R2) := h1.perm.trans (h2.perm.cons _)
  exact (key.pre (fun h hs => hs.perm hp)).mono fun v M ⟨e1, e2⟩ => ⟨L, ⟨e1, rfl⟩, fun h hs => by rw [e2] at hs; exact hs.perm hp.symm⟩
theorem alike_pull {L R1 R2 R3 : List Asn} {p r s : Nat} {σ : St} {N : Nat} (h1 : Pull (blk p (.cells #[.pointer (some ⟨r, 0, none⟩), .pointer (some ⟨s, 0, none⟩)] 35 (0, 0))) L R1) (h2 : Pull (refA s σ) R1 R2) (h3 : Pull (ringA r σ) R2 R3) (hw : Wf σ N) :
    CallS Try.prog 21 [.pointer (some ⟨p, 0, none⟩)].toArray L (fun v M => v = .bool true ∧ M = L) := by
  have hp : L.Perm (blk p (.cells #[.pointer (some ⟨r, 0, none⟩), .pointer (some ⟨s, 0, none⟩)] 35 (0, 0)) :: refA s σ :: ringA r σ :: R3) := h1.perm.trans ((h2.perm.trans (h3.perm.cons _)).cons _)
  exact ((alike_ok p r s σ N hw).pre (fun h hs => hs.perm hp)).mono fun v M ⟨e1, e2⟩ => ⟨L, ⟨e1, rfl⟩, fun h hs => by rw [e2] at hs; exact hs.perm hp.symm⟩

theorem copies_bad {h0 : Hp} (n : Int) (a : Option Addr) (cap : Nat) (al : List (Int × Int × Int)) [Inp actE h0 a al] (a2 : Option Addr) (cap2 : Nat) (bl : List (Int × Int × Int)) [Inp actE h0 a2 bl] (hn : n < 1 ∨ 8 < n) :
    CallS Try.prog 9 [.int .i64 n, .slice a al.length cap, .slice a2 bl.length cap2].toArray [inp h0] (fun v M => v = .bool true ∧ M = [inp h0]) := by
  refine CallS.enter Try.func9 rfl rfl rfl rfl rfl ?_
  refine J.seq rfl ?_
  refine J.region rfl ?_
  refine JO.pur rfl rfl rfl (Pur.assign rfl) ?_
  refine JO.nil ?_
  refine J.seq rfl ?_
  refine J.region rfl ?_
  refine JO.pur rfl rfl rfl (Pur.move rfl) ?_
  refine JO.effR rfl rfl rfl (Eff.call rfl (beginBad n hn)) ?_
  refine JO.pur rfl rfl rfl (Pur.move rfl) ?_
  refine JO.pur rfl rfl rfl (Pur.extract rfl rfl) ?_
  refine JO.pur rfl rfl rfl (Pur.extract rfl rfl) ?_
  refine JO.pur rfl rfl rfl (Pur.assign rfl) ?_
  refine JO.pur rfl rfl rfl (Pur.assign rfl) ?_
  refine JO.nil ?_
  refine J.seq rfl ?_
  refine J.seq rfl ?_
  refine J.region rfl ?_
  refine JO.pur rfl rfl rfl (Pur.move rfl) ?_
  refine JO.effR rfl rfl rfl (Eff.call rfl (many_ok a _ _)) ?_
  refine JO.pur rfl rfl rfl (Pur.move rfl) ?_
  refine JO.splitB 20 rfl (fun h20 => ?_) (fun h20 => ?_)
  · try simp only [decide_eq_true_eq, decide_eq_false_iff_not, Bool.not_eq_true', Bool.not_eq_false', Bool.and_eq_true, Bool.or_eq_true, Bool.and_eq_false_iff, Bool.or_eq_false_iff, Option.isNone_some, Option.isSome_some, Option.isNone_none, Option.isSome_none, Int.not_lt, Int.not_le, beq_iff_eq, beq_eq_false_iff_ne, bne_iff_ne, ne_eq, Bool.not_not, Decidable.not_not] at h20
    refine JO.no rfl rfl rfl ?_
    refine JO.no rfl rfl rfl ?_
    refine JO.pur rfl rfl rfl (Pur.pickT rfl rfl) ?_
    refine JO.pur rfl rfl rfl (Pur.move rfl) ?_
    refine JO.no rfl rfl rfl ?_
    refine JO.no rfl rfl rfl ?_
    refine JO.pur rfl rfl rfl (Pur.pickT rfl rfl) ?_
    refine JO.nil ?_
    refine J.condT rfl rfl ?_
    refine J.seq rfl ?_
    refine J.region rfl ?_
    refine JO.effR rfl rfl rfl (Eff.call rfl (first_ok)) ?_
    refine JO.pur rfl rfl rfl (Pur.assign rfl) ?_
    refine JO.nil ?_
    refine J.ret rfl rfl ?_
    exact ⟨rfl, rfl⟩
  · try simp only [decide_eq_true_eq, decide_eq_false_iff_not, Bool.not_eq_true', Bool.not_eq_false', Bool.and_eq_true, Bool.or_eq_true, Bool.and_eq_false_iff, Bool.or_eq_false_iff, Option.isNone_some, Option.isSome_some, Option.isNone_none, Option.isSome_none, Int.not_lt, Int.not_le, beq_iff_eq, beq_eq_false_iff_ne, bne_iff_ne, ne_eq, Bool.not_not, Decidable.not_not] at h20
    refine JO.pur rfl rfl rfl (Pur.move rfl) ?_
    refine JO.effR rfl rfl rfl (Eff.call rfl (many_ok a2 _ _)) ?_
    refine JO.pur rfl rfl rfl (Pur.pickF rfl rfl) ?_
    refine JO.pur rfl rfl rfl (Pur.move rfl) ?_
    refine JO.splitB 24 rfl (fun h24 => ?_) (fun h24 => ?_)
    · try simp only [decide_eq_true_eq, decide_eq_false_iff_not, Bool.not_eq_true', Bool.not_eq_false', Bool.and_eq_true, Bool.or_eq_true, Bool.and_eq_false_iff, Bool.or_eq_false_iff, Option.isNone_some, Option.isSome_some, Option.isNone_none, Option.isSome_none, Int.not_lt, Int.not_le, beq_iff_eq, beq_eq_false_iff_ne, bne_iff_ne, ne_eq, Bool.not_not, Decidable.not_not] at h24
      refine JO.no rfl rfl rfl ?_
      refine JO.no rfl rfl rfl ?_
      refine JO.pur rfl rfl rfl (Pur.pickT rfl rfl) ?_
      refine JO.nil ?_
      refine J.condT rfl rfl ?_
      refine J.seq rfl ?_
      refine J.region rfl ?_
      refine JO.effR rfl rfl rfl (Eff.call rfl (first_ok)) ?_
      refine JO.pur rfl rfl rfl (Pur.assign rfl) ?_
      refine JO.nil ?_
      refine J.ret rfl rfl ?_
      exact ⟨rfl, rfl⟩
    · try simp only [decide_eq_true_eq, decide_eq_false_iff_not, Bool.not_eq_true', Bool.not_eq_false', Bool.and_eq_true, Bool.or_eq_true, Bool.and_eq_false_iff, Bool.or_eq_false_iff, Option.isNone_some, Option.isSome_some, Option.isNone_none, Option.isSome_none, Int.not_lt, Int.not_le, beq_iff_eq, beq_eq_false_iff_ne, bne_iff_ne, ne_eq, Bool.not_not, Decidable.not_not] at h24
      refine JO.pur rfl rfl rfl (Pur.move rfl) ?_
      refine JO.pur rfl rfl rfl (Pur.eqlPtrNil rfl) ?_
      refine JO.pur rfl rfl rfl (Pur.pickF rfl rfl) ?_
      refine JO.nil ?_
      refine J.setv (u' := .bool true) 27 rfl (congrArg Value.bool ((by simp))) ?_
      refine J.condT rfl rfl ?_
      refine J.seq rfl ?_
      refine J.region rfl ?_
      refine JO.effR rfl rfl rfl (Eff.call rfl (first_ok)) ?_
      refine JO.pur rfl rfl rfl (Pur.assign rfl) ?_
      refine JO.nil ?_
      refine J.ret rfl rfl ?_
      exact ⟨rfl, rfl⟩

theorem copies_many {h0 : Hp} (n : Int) (a : Option Addr) (cap : Nat) (al : List (Int × Int × Int)) [Inp actE h0 a al] (a2 : Option Addr) (cap2 : Nat) (bl : List (Int × Int × Int)) [Inp actE h0 a2 bl] (hn : 1 ≤ n ∧ n ≤ 8) (hl : 200 < al.length) :
    CallS Try.prog 9 [.int .i64 n, .slice a al.length cap, .slice a2 bl.length cap2].toArray [inp h0] (fun v M => v = .bool true ∧ M = [inp h0]) := by
  refine CallS.ent ?_
  refine CallS.enter Try.func9 rfl rfl rfl rfl rfl ?_
  refine J.seq rfl ?_
  refine J.region rfl ?_
  refine JO.pur rfl rfl rfl (Pur.assign rfl) ?_
  refine JO.nil ?_
  refine J.seq rfl ?_
  refine J.region rfl ?_
  refine JO.pur rfl rfl rfl (Pur.move rfl) ?_
  refine JO.eff rfl rfl rfl (Eff.call rfl (beginGood n hn)) ?_
  rintro _ _ ⟨p, r, s, rfl, rfl⟩
  refine JO.pur rfl rfl rfl (Pur.move rfl) ?_
  refine JO.pur rfl rfl rfl (Pur.extract rfl rfl) ?_
  refine JO.pur rfl rfl rfl (Pur.extract rfl rfl) ?_
  refine JO.pur rfl rfl rfl (Pur.assign rfl) ?_
  refine JO.pur rfl rfl rfl (Pur.assign rfl) ?_
  refine JO.nil ?_
  refine J.seq rfl ?_
  refine J.seq rfl ?_
  refine J.region rfl ?_
  refine JO.pur rfl rfl rfl (Pur.move rfl) ?_
  refine JO.effR rfl rfl rfl (Eff.call rfl (many_ok a _ _)) ?_
  refine JO.pur rfl rfl rfl (Pur.move rfl) ?_
  refine JO.setv (u' := .bool true) 20 rfl (congrArg Value.bool ((by simp; omega))) ?_
  refine JO.no rfl rfl rfl ?_
  refine JO.no rfl rfl rfl ?_
  refine JO.pur rfl rfl rfl (Pur.pickT rfl rfl) ?_
  refine JO.pur rfl rfl rfl (Pur.move rfl) ?_
  refine JO.no rfl rfl rfl ?_
  refine JO.no rfl rfl rfl ?_
  refine JO.pur rfl rfl rfl (Pur.pickT rfl rfl) ?_
  refine JO.nil ?_
  refine J.condT rfl rfl ?_
  refine J.seq rfl ?_
  refine J.region rfl ?_
  refine JO.effR rfl rfl rfl (Eff.call rfl (first_ok)) ?_
  refine JO.pur rfl rfl rfl (Pur.assign rfl) ?_
  refine JO.nil ?_
  refine J.ret rfl rfl ?_
  exact ⟨_, _, ⟨rfl, rfl⟩, rfl, fun h hs => hs.tail.tail.tail⟩

theorem copies_many2 {h0 : Hp} (n : Int) (a : Option Addr) (cap : Nat) (al : List (Int × Int × Int)) [Inp actE h0 a al] (a2 : Option Addr) (cap2 : Nat) (bl : List (Int × Int × Int)) [Inp actE h0 a2 bl] (hn : 1 ≤ n ∧ n ≤ 8) (hl : al.length ≤ 200) (hm : 200 < bl.length) :
    CallS Try.prog 9 [.int .i64 n, .slice a al.length cap, .slice a2 bl.length cap2].toArray [inp h0] (fun v M => v = .bool true ∧ M = [inp h0]) := by
  refine CallS.ent ?_
  refine CallS.enter Try.func9 rfl rfl rfl rfl rfl ?_
  refine J.seq rfl ?_
  refine J.region rfl ?_
  refine JO.pur rfl rfl rfl (Pur.assign rfl) ?_
  refine JO.nil ?_
  refine J.seq rfl ?_
  refine J.region rfl ?_
  refine JO.pur rfl rfl rfl (Pur.move rfl) ?_
  refine JO.eff rfl rfl rfl (Eff.call rfl (beginGood n hn)) ?_
  rintro _ _ ⟨p, r, s, rfl, rfl⟩
  refine JO.pur rfl rfl rfl (Pur.move rfl) ?_
  refine JO.pur rfl rfl rfl (Pur.extract rfl rfl) ?_
  refine JO.pur rfl rfl rfl (Pur.extract rfl rfl) ?_
  refine JO.pur rfl rfl rfl (Pur.assign rfl) ?_
  refine JO.pur rfl rfl rfl (Pur.assign rfl) ?_
  refine JO.nil ?_
  refine J.seq rfl ?_
  refine J.seq rfl ?_
  refine J.region rfl ?_
  refine JO.pur rfl rfl rfl (Pur.move rfl) ?_
  refine JO.effR rfl rfl rfl (Eff.call rfl (many_ok a _ _)) ?_
  refine JO.pur rfl rfl rfl (Pur.move rfl) ?_
  refine JO.setv (u' := .bool false) 20 rfl (congrArg Value.bool ((by simp; omega))) ?_
  refine JO.pur rfl rfl rfl (Pur.move rfl) ?_
  refine JO.effR rfl rfl rfl (Eff.call rfl (many_ok a2 _ _)) ?_
  refine JO.pur rfl rfl rfl (Pur.pickF rfl rfl) ?_
  refine JO.pur rfl rfl rfl (Pur.move rfl) ?_
  refine JO.setv (u' := .bool true) 24 rfl (congrArg Value.bool ((by simp; omega))) ?_
  refine JO.no rfl rfl rfl ?_
  refine JO.no rfl rfl rfl ?_
  refine JO.pur rfl rfl rfl (Pur.pickT rfl rfl) ?_
  refine JO.nil ?_
  refine J.condT rfl rfl ?_
  refine J.seq rfl ?_
  refine J.region rfl ?_
  refine JO.effR rfl rfl rfl (Eff.call rfl (first_ok)) ?_
  refine JO.pur rfl rfl rfl (Pur.assign rfl) ?_
  refine JO.nil ?_
  refine J.ret rfl rfl ?_
  exact ⟨_, _, ⟨rfl, rfl⟩, rfl, fun h hs => hs.tail.tail.tail⟩

theorem copies_good {h0 : Hp} (n : Int) (a : Option Addr) (cap : Nat) (al : List (Int × Int × Int)) [Inp actE h0 a al] (a2 : Option Addr) (cap2 : Nat) (bl : List (Int × Int × Int)) [Inp actE h0 a2 bl] (hn : 1 ≤ n ∧ n ≤ 8) (hl : al.length ≤ 200) (hm : bl.length ≤ 200) :
    CallS Try.prog 9 [.int .i64 n, .slice a al.length cap, .slice a2 bl.length cap2].toArray [inp h0] (fun v M => v = .bool true ∧ M = [inp h0]) := by
  refine CallS.ent ?_
  refine CallS.enter Try.func9 rfl rfl rfl rfl rfl ?_
  refine J.seq rfl ?_
  refine J.region rfl ?_
  refine JO.pur rfl rfl rfl (Pur.assign rfl) ?_
  refine JO.nil ?_
  refine J.seq rfl ?_
  refine J.region rfl ?_
  refine JO.pur rfl rfl rfl (Pur.move rfl) ?_
  refine JO.eff rfl rfl rfl (Eff.call rfl (beginGood n hn)) ?_
  rintro _ _ ⟨p, r, s, rfl, rfl⟩
  refine JO.pur rfl rfl rfl (Pur.move rfl) ?_
  refine JO.pur rfl rfl rfl (Pur.extract rfl rfl) ?_
  refine JO.pur rfl rfl rfl (Pur.extract rfl rfl) ?_
  refine JO.pur rfl rfl rfl (Pur.assign rfl) ?_
  refine JO.pur rfl rfl rfl (Pur.assign rfl) ?_
  refine JO.nil ?_
  refine J.seq rfl ?_
  refine J.seq rfl ?_
  refine J.region rfl ?_
  refine JO.pur rfl rfl rfl (Pur.move rfl) ?_
  refine JO.effR rfl rfl rfl (Eff.call rfl (many_ok a _ _)) ?_
  refine JO.pur rfl rfl rfl (Pur.move rfl) ?_
  refine JO.setv (u' := .bool false) 20 rfl (congrArg Value.bool ((by simp; omega))) ?_
  refine JO.pur rfl rfl rfl (Pur.move rfl) ?_
  refine JO.effR rfl rfl rfl (Eff.call rfl (many_ok a2 _ _)) ?_
  refine JO.pur rfl rfl rfl (Pur.pickF rfl rfl) ?_
  refine JO.pur rfl rfl rfl (Pur.move rfl) ?_
  refine JO.setv (u' := .bool false) 24 rfl (congrArg Value.bool ((by simp; omega))) ?_
  refine JO.pur rfl rfl rfl (Pur.move rfl) ?_
  refine JO.pur rfl rfl rfl (Pur.eqlPtrNil rfl) ?_
  refine JO.pur rfl rfl rfl (Pur.pickF rfl rfl) ?_
  refine JO.nil ?_
  refine J.setv (u' := .bool false) 27 rfl (congrArg Value.bool ((by simp))) ?_
  refine J.condF rfl rfl ?_
  refine J.skip rfl ?_
  refine J.seq rfl ?_
  refine J.seq rfl ?_
  refine J.region rfl ?_
  refine JO.pur rfl rfl rfl (Pur.assign rfl) ?_
  refine JO.nil ?_
  refine J.block rfl ?_
  refine J.loopF (ι := Nat) (fun i => i ≤ al.length) (fun i => [(9, .int .i64 (i : Int))]) [(1, _), (2, _), (7, _)] (fun i => [blk p (.cells #[.pointer (some ⟨r, 0, none⟩), .pointer (some ⟨s, 0, none⟩)] 35 (0, 0)), refA s (acts (init n.toNat) (al.take i)), ringA r (acts (init n.toNat) (al.take i)), inp h0]) (fun i => al.length - i) 0 rfl (.cons rfl rfl (.cons rfl rfl (.cons rfl rfl .nil))) (.cons rfl rfl .nil) (fun _ h => h) (Nat.zero_le _) ?_
  rintro i hi ih
  try dsimp only
  have hw := wf_run hn al i hl
  refine J.seq rfl ?_
  refine J.seq rfl ?_
  refine J.region rfl ?_
  refine JO.pur rfl rfl rfl (Pur.move rfl) ?_
  refine JO.pur rfl rfl rfl (Pur.move rfl) ?_
  refine JO.pur rfl rfl rfl (Pur.len rfl) ?_
  refine JO.pur rfl rfl rfl (Pur.lss rfl rfl) ?_
  refine JO.nil ?_
  refine J.splitB 32 rfl (fun h32 => ?_) (fun h32 => ?_)
  · try simp only [decide_eq_true_eq, decide_eq_false_iff_not, Bool.not_eq_true', Bool.not_eq_false', Bool.and_eq_true, Bool.or_eq_true, Bool.and_eq_false_iff, Bool.or_eq_false_iff, Option.isNone_some, Option.isSome_some, Option.isNone_none, Option.isSome_none, Int.not_lt, Int.not_le, beq_iff_eq, beq_eq_false_iff_ne, bne_iff_ne, ne_eq, Bool.not_not, Decidable.not_not] at h32
    refine J.condT rfl rfl ?_
    refine J.skip rfl ?_
    refine J.seq rfl ?_
    refine J.block rfl ?_
    refine J.region rfl ?_
    refine JO.pur rfl rfl rfl (Pur.move rfl) ?_
    refine JO.pur rfl rfl rfl (Pur.move rfl) ?_
    refine JO.pur rfl rfl rfl (Pur.move rfl) ?_
    refine JO.pur rfl rfl rfl (Pur.idx rfl rfl rfl (by first | rfl | simp) rfl (by omega)) ?_
    refine JO.pur rfl rfl rfl (Pur.loadA rfl rfl rfl (CellsIn.el rfl (List.getElem?_eq_getElem (by omega)))) ?_
    refine JO.eff rfl rfl rfl (Eff.call rfl (do_ok p r s _ 200 hw _ _ _)) ?_
    rintro _ _ ⟨rfl, rfl⟩
    refine JO.nil ?_
    refine J.inBlock ?_
    refine J.region rfl ?_
    refine JO.pur rfl rfl rfl (Pur.move rfl) ?_
    refine JO.pur rfl rfl rfl (Pur.add rfl rfl (wr64 (by omega))) ?_
    refine JO.pur rfl rfl rfl (Pur.assign rfl) ?_
    refine JO.nil ?_
    exact J.weaken (.cons rfl (congrArg (Value.int .i64) (by omega)) (.cons rfl rfl (.cons rfl rfl (.cons rfl rfl .nil)))) (fun h hs => by rw [← acts_next (by omega)]; exact hs) (ih (i + 1) (by omega) (by omega))
  · try simp only [decide_eq_true_eq, decide_eq_false_iff_not, Bool.not_eq_true', Bool.not_eq_false', Bool.and_eq_true, Bool.or_eq_true, Bool.and_eq_false_iff, Bool.or_eq_false_iff, Option.isNone_some, Option.isSome_some, Option.isNone_none, Option.isSome_none, Int.not_lt, Int.not_le, beq_iff_eq, beq_eq_false_iff_ne, bne_iff_ne, ne_eq, Bool.not_not, Decidable.not_not] at h32
    generalize acts (init n.toNat) (al.take i) = σ at hw ⊢
    refine J.condF rfl rfl ?_
    refine J.exit rfl rfl ?_
    refine J.seq rfl ?_
    refine J.mask0 (n := 13) [] rfl Try.mixed rfl (by kernel_rfl) ?_
    refine JM.take 0 (fun _ h => h) rfl (by kernel_rfl) rfl rfl rfl (m' := 1) rfl (Pur.move rfl) ?_
    refine JM.take 1 (fun _ h => h) rfl (by kernel_rfl) rfl rfl rfl (m' := 3) rfl (Pur.nilCheck rfl) ?_
    refine JM.take 2 (fun _ h => h) rfl (by kernel_rfl) rfl rfl rfl (m' := 7) rfl (Pur.fieldAddr rfl) ?_
    refine JM.take 3 (fun _ h => h) rfl (by kernel_rfl) rfl rfl rfl (m' := 15) rfl (Pur.load rfl (CellIn.blk rfl)) ?_
    refine JM.take 5 (fun _ h => h) rfl (by kernel_rfl) rfl rfl rfl (m' := 47) rfl (Pur.move rfl) ?_
    refine JM.take 6 (fun _ h => h) rfl (by kernel_rfl) rfl rfl rfl (m' := 111) rfl (Pur.nilCheck rfl) ?_
    refine JM.take 7 (fun _ h => h) rfl (by kernel_rfl) rfl rfl rfl (m' := 239) rfl (Pur.fieldAddr rfl) ?_
    refine JM.take 8 (fun _ h => h) rfl (by kernel_rfl) rfl rfl rfl (m' := 495) rfl (Pur.load rfl (CellIn.blk rfl)) ?_
    refine JM.one (i := 4) (by kernel_rfl) ?_
    refine JMi.eff rfl rfl rfl rfl (m' := 511) rfl (Eff.call rfl (copy_at hw)) ?_
    rintro _ _ ⟨q10, rfl, rfl⟩
    refine ⟨.inr (fun _ h => h.tail), ?_⟩
    refine JM.one (i := 9) (by kernel_rfl) ?_
    refine JMi.eff rfl rfl rfl rfl (m' := 1023) rfl (Eff.call rfl (fcopy_at hw)) ?_
    rintro _ _ ⟨s10, rfl, rfl⟩
    refine ⟨.inr (fun _ h => h.tail.tail), ?_⟩
    refine JM.take 10 (fun _ h => h.tail.tail) rfl (by kernel_rfl) rfl rfl rfl (m' := 2047) rfl (Pur.build (cs := [_, _]) rfl rfl) ?_
    refine JM.one (i := 11) (by kernel_rfl) ?_
    refine JMi.eff rfl rfl rfl rfl (m' := 4095) rfl (Eff.box (cs := [_, _]) rfl rfl) ?_
    rintro _ _ ⟨b52, rfl, rfl⟩
    refine ⟨.inr (fun _ h => h.tail.tail.tail), ?_⟩
    refine JM.take 12 (fun _ h => h.tail.tail.tail) rfl (by kernel_rfl) rfl rfl rfl (m' := 8191) rfl (Pur.assign rfl) ?_
    refine JM.done rfl ?_
    refine J.seq rfl ?_
    refine J.imp (M := [blk b52 (.cells #[.pointer (some ⟨q10, 0, none⟩), .pointer (some ⟨s10, 0, none⟩)] 35 (0, 0)), refA s10 σ, ringA q10 σ, blk p (.cells #[.pointer (some ⟨r, 0, none⟩), .pointer (some ⟨s, 0, none⟩)] 35 (0, 0)), refA s σ, ringA r σ, inp h0]) (fun h hs => by first | exact hs | exact (Sat.pull (.tail (.tail .head)) (Sat.pull (.tail (.tail .head)) (Sat.pull (.tail .head) hs)))) ?_
    refine J.mask0 (n := 12) [] rfl Try.mixed rfl (by kernel_rfl) ?_
    refine JM.take 0 (fun _ h => h) rfl (by kernel_rfl) rfl rfl rfl (m' := 1) rfl (Pur.move rfl) ?_
    refine JM.take 1 (fun _ h => h) rfl (by kernel_rfl) rfl rfl rfl (m' := 3) rfl (Pur.nilCheck rfl) ?_
    refine JM.take 2 (fun _ h => h) rfl (by kernel_rfl) rfl rfl rfl (m' := 7) rfl (Pur.fieldAddr rfl) ?_
    refine JM.take 3 (fun _ h => h) rfl (by kernel_rfl) rfl rfl rfl (m' := 15) rfl (Pur.load rfl (CellIn.blk rfl)) ?_
    refine JM.take 4 (fun _ h => h) rfl (by kernel_rfl) rfl rfl rfl (m' := 31) rfl (Pur.move rfl) ?_
    refine JM.take 5 (fun _ h => h) rfl (by kernel_rfl) rfl rfl rfl (m' := 63) rfl (Pur.nilCheck rfl) ?_
    refine JM.take 6 (fun _ h => h) rfl (by kernel_rfl) rfl rfl rfl (m' := 127) rfl (Pur.fieldAddr rfl) ?_
    refine JM.take 7 (fun _ h => h) rfl (by kernel_rfl) rfl rfl rfl (m' := 255) rfl (Pur.load rfl (CellIn.blk rfl)) ?_
    refine JM.one (i := 8) (by kernel_rfl) ?_
    refine JMi.eff rfl rfl rfl rfl (m' := 511) rfl (Eff.call rfl (fcopy_at hw)) ?_
    rintro _ _ ⟨s11, rfl, rfl⟩
    refine ⟨.inr (fun _ h => h.tail), ?_⟩
    refine JM.take 9 (fun _ h => h.tail) rfl (by kernel_rfl) rfl rfl rfl (m' := 1023) rfl (Pur.build (cs := [_, _]) rfl rfl) ?_
    refine JM.one (i := 10) (by kernel_rfl) ?_
    refine JMi.eff rfl rfl rfl rfl (m' := 2047) rfl (Eff.box (cs := [_, _]) rfl rfl) ?_
    rintro _ _ ⟨b63, rfl, rfl⟩
    refine ⟨.inr (fun _ h => h.tail.tail), ?_⟩
    refine JM.take 11 (fun _ h => h.tail.tail) rfl (by kernel_rfl) rfl rfl rfl (m' := 4095) rfl (Pur.assign rfl) ?_
    refine JM.done rfl ?_
    refine J.seq rfl ?_
    refine J.seq rfl ?_
    refine J.imp (M := [blk b52 (.cells #[.pointer (some ⟨q10, 0, none⟩), .pointer (some ⟨s10, 0, none⟩)] 35 (0, 0)), refA s10 σ, ringA q10 σ, blk b63 (.cells #[.pointer (some ⟨r, 0, none⟩), .pointer (some ⟨s11, 0, none⟩)] 35 (0, 0)), refA s11 σ, blk p (.cells #[.pointer (some ⟨r, 0, none⟩), .pointer (some ⟨s, 0, none⟩)] 35 (0, 0)), refA s σ, ringA r σ, inp h0]) (fun h hs => (Sat.pull (.tail (.tail (.tail (.tail .head)))) (Sat.pull (.tail (.tail (.tail (.tail .head)))) (Sat.pull (.tail (.tail (.tail (.tail .head)))) (Sat.pull (.tail .head) (Sat.pull (.tail .head) hs)))))) ?_
    refine J.quiet rfl Try.mixed (by kernel_rfl) ?_
    refine JQ.pur rfl rfl rfl (Pur.move rfl) ?_
    refine JQ.pur rfl rfl rfl (Pur.nilCheck rfl) ?_
    refine JQ.pur rfl rfl rfl (Pur.fieldAddr rfl) ?_
    refine JQ.pur rfl rfl rfl (Pur.load rfl (CellIn.blk rfl)) ?_
    refine JQ.pur rfl rfl rfl (Pur.eqlPtrNil rfl) ?_
    refine JQ.pur rfl rfl rfl (Pur.move rfl) ?_
    refine JQ.setv (u' := .bool false) 69 rfl (congrArg Value.bool ((by simp))) ?_
    refine JQ.pur rfl rfl rfl (Pur.move rfl) ?_
    refine JQ.pur rfl rfl rfl (Pur.nilCheck rfl) ?_
    refine JQ.pur rfl rfl rfl (Pur.fieldAddr rfl) ?_
    refine JQ.pur rfl rfl rfl (Pur.load rfl (CellIn.blk rfl)) ?_
    refine JQ.pur rfl rfl rfl (Pur.move rfl) ?_
    refine JQ.pur rfl rfl rfl (Pur.nilCheck rfl) ?_
    refine JQ.pur rfl rfl rfl (Pur.fieldAddr rfl) ?_
    refine JQ.pur rfl rfl rfl (Pur.load rfl (CellIn.blk rfl)) ?_
    refine JQ.callE rfl rfl rfl (same_pull (L := [blk b52 (.cells #[.pointer (some ⟨q10, 0, none⟩), .pointer (some ⟨s10, 0, none⟩)] 35 (0, 0)), refA s10 σ, ringA q10 σ, blk b63 (.cells #[.pointer (some ⟨r, 0, none⟩), .pointer (some ⟨s11, 0, none⟩)] 35 (0, 0)), refA s11 σ, blk p (.cells #[.pointer (some ⟨r, 0, none⟩), .pointer (some ⟨s, 0, none⟩)] 35 (0, 0)), refA s σ, ringA r σ, inp h0]) (r := q10) (q := r) (.tail (.tail .head)) (.tail (.tail (.tail (.tail (.tail (.tail .head)))))) hw hw) ?_
    refine JQ.pur rfl rfl rfl (Pur.not rfl) ?_
    refine JQ.pur rfl rfl rfl (Pur.pickF rfl rfl) ?_
    refine JQ.nil ?_
    refine J.setv (u' := .bool false) 80 rfl (congrArg Value.bool ((by simp))) ?_
    refine J.condF rfl rfl ?_
    refine J.skip rfl ?_
    refine J.seq rfl ?_
    refine J.seq rfl ?_
    refine J.region rfl ?_
    refine JO.pur rfl rfl rfl (Pur.assign rfl) ?_
    refine JO.nil ?_
    refine J.block rfl ?_
    refine J.loopF (ι := Nat) (fun i => i ≤ bl.length) (fun i => [(12, .int .i64 (i : Int))]) [(2, _), (7, _), (10, _), (11, _)] (fun i => [blk b52 (.cells #[.pointer (some ⟨q10, 0, none⟩), .pointer (some ⟨s10, 0, none⟩)] 35 (0, 0)), refA s10 (acts σ (bl.take i)), ringA q10 (acts σ (bl.take i)), blk b63 (.cells #[.pointer (some ⟨r, 0, none⟩), .pointer (some ⟨s11, 0, none⟩)] 35 (0, 0)), refA s11 σ, blk p (.cells #[.pointer (some ⟨r, 0, none⟩), .pointer (some ⟨s, 0, none⟩)] 35 (0, 0)), refA s σ, ringA r σ, inp h0]) (fun i => bl.length - i) 0 rfl (.cons rfl rfl (.cons rfl rfl (.cons rfl rfl (.cons rfl rfl .nil)))) (.cons rfl rfl .nil) (fun _ h => h) (Nat.zero_le _) ?_
    rintro j hj ih2
    try dsimp only
    have hwj : Wf (acts σ (bl.take j)) 400 := wf_mono (wf_acts (bl.take j) hw (by rw [List.length_take]; omega)) (by rw [List.length_take]; omega) (by omega)
    refine J.seq rfl ?_
    refine J.seq rfl ?_
    refine J.region rfl ?_
    refine JO.pur rfl rfl rfl (Pur.move rfl) ?_
    refine JO.pur rfl rfl rfl (Pur.move rfl) ?_
    refine JO.pur rfl rfl rfl (Pur.len rfl) ?_
    refine JO.pur rfl rfl rfl (Pur.lss rfl rfl) ?_
    refine JO.nil ?_
    refine J.splitB 84 rfl (fun h84 => ?_) (fun h84 => ?_)
    · try simp only [decide_eq_true_eq, decide_eq_false_iff_not, Bool.not_eq_true', Bool.not_eq_false', Bool.and_eq_true, Bool.or_eq_true, Bool.and_eq_false_iff, Bool.or_eq_false_iff, Option.isNone_some, Option.isSome_some, Option.isNone_none, Option.isSome_none, Int.not_lt, Int.not_le, beq_iff_eq, beq_eq_false_iff_ne, bne_iff_ne, ne_eq, Bool.not_not, Decidable.not_not] at h84
      refine J.condT rfl rfl ?_
      refine J.skip rfl ?_
      refine J.seq rfl ?_
      refine J.block rfl ?_
      refine J.seq rfl ?_
      refine J.region rfl ?_
      refine JO.pur rfl rfl rfl (Pur.move rfl) ?_
      refine JO.pur rfl rfl rfl (Pur.move rfl) ?_
      refine JO.pur rfl rfl rfl (Pur.move rfl) ?_
      refine JO.pur rfl rfl rfl (Pur.idx rfl rfl rfl (by first | rfl | simp) rfl (by omega)) ?_
      refine JO.pur rfl rfl rfl (Pur.loadA rfl rfl rfl (CellsIn.el rfl (List.getElem?_eq_getElem (by omega)))) ?_
      refine JO.eff rfl rfl rfl (Eff.call rfl (do_ok b52 q10 s10 _ 400 hwj _ _ _)) ?_
      rintro _ _ ⟨rfl, rfl⟩
      refine JO.pur rfl rfl rfl (Pur.not rfl) ?_
      refine JO.nil ?_
      refine J.setv (u' := .bool false) 93 rfl (congrArg Value.bool (rfl)) ?_
      refine J.condF rfl rfl ?_
      refine J.skip rfl ?_
      refine J.inBlock ?_
      refine J.region rfl ?_
      refine JO.pur rfl rfl rfl (Pur.move rfl) ?_
      refine JO.pur rfl rfl rfl (Pur.add rfl rfl (wr64 (by omega))) ?_
      refine JO.pur rfl rfl rfl (Pur.assign rfl) ?_
      refine JO.nil ?_
      exact J.weaken (.cons rfl (congrArg (Value.int .i64) (by omega)) (.cons rfl rfl (.cons rfl rfl (.cons rfl rfl (.cons rfl rfl .nil))))) (fun h hs => by rw [← acts_next (by omega)]; exact hs) (ih2 (j + 1) (by omega) (by omega))
    · try simp only [decide_eq_true_eq, decide_eq_false_iff_not, Bool.not_eq_true', Bool.not_eq_false', Bool.and_eq_true, Bool.or_eq_true, Bool.and_eq_false_iff, Bool.or_eq_false_iff, Option.isNone_some, Option.isSome_some, Option.isNone_none, Option.isSome_none, Int.not_lt, Int.not_le, beq_iff_eq, beq_eq_false_iff_ne, bne_iff_ne, ne_eq, Bool.not_not, Decidable.not_not] at h84
      refine J.condF rfl rfl ?_
      refine J.exit rfl rfl ?_
      refine J.seq rfl ?_
      refine J.quiet rfl Try.mixed (by kernel_rfl) ?_
      refine JQ.pur rfl rfl rfl (Pur.move rfl) ?_
      refine JQ.callE rfl rfl rfl (alike_ok b52 q10 s10 _ 400 hwj) ?_
      refine JQ.pur rfl rfl rfl (Pur.move rfl) ?_
      refine JQ.setv (u' := .bool true) 96 rfl (congrArg Value.bool (rfl)) ?_
      refine JQ.pur rfl rfl rfl (Pur.move rfl) ?_
      refine JQ.callE rfl rfl rfl (alike_pull (L := [blk b52 (.cells #[.pointer (some ⟨q10, 0, none⟩), .pointer (some ⟨s10, 0, none⟩)] 35 (0, 0)), refA s10 (acts σ (bl.take j)), ringA q10 (acts σ (bl.take j)), blk b63 (.cells #[.pointer (some ⟨r, 0, none⟩), .pointer (some ⟨s11, 0, none⟩)] 35 (0, 0)), refA s11 σ, blk p (.cells #[.pointer (some ⟨r, 0, none⟩), .pointer (some ⟨s, 0, none⟩)] 35 (0, 0)), refA s σ, ringA r σ, inp h0]) (.tail (.tail (.tail .head))) (.tail (.tail (.tail .head))) (.tail (.tail (.tail (.tail (.tail .head))))) hw) ?_
      refine JQ.pur rfl rfl rfl (Pur.pickT rfl rfl) ?_
      refine JQ.pur rfl rfl rfl (Pur.move rfl) ?_
      refine JQ.setv (u' := .bool true) 100 rfl (congrArg Value.bool (rfl)) ?_
      refine JQ.pur rfl rfl rfl (Pur.move rfl) ?_
      refine JQ.pur rfl rfl rfl (Pur.nilCheck rfl) ?_
      refine JQ.pur rfl rfl rfl (Pur.fieldAddr rfl) ?_
      refine JQ.pur rfl rfl rfl (Pur.load rfl (CellIn.blk rfl)) ?_
      refine JQ.pur rfl rfl rfl (Pur.move rfl) ?_
      refine JQ.pur rfl rfl rfl (Pur.nilCheck rfl) ?_
      refine JQ.pur rfl rfl rfl (Pur.fieldAddr rfl) ?_
      refine JQ.pur rfl rfl rfl (Pur.load rfl (CellIn.blk rfl)) ?_
      refine JQ.callE rfl rfl rfl (same_pull (L := [blk b52 (.cells #[.pointer (some ⟨q10, 0, none⟩), .pointer (some ⟨s10, 0, none⟩)] 35 (0, 0)), refA s10 (acts σ (bl.take j)), ringA q10 (acts σ (bl.take j)), blk b63 (.cells #[.pointer (some ⟨r, 0, none⟩), .pointer (some ⟨s11, 0, none⟩)] 35 (0, 0)), refA s11 σ, blk p (.cells #[.pointer (some ⟨r, 0, none⟩), .pointer (some ⟨s, 0, none⟩)] 35 (0, 0)), refA s σ, ringA r σ, inp h0]) (r := q10) (q := r) (.tail (.tail .head)) (.tail (.tail (.tail (.tail (.tail (.tail .head)))))) hwj hw) ?_
      refine JQ.pur rfl rfl rfl (Pur.move rfl) ?_
      refine JQ.pur rfl rfl rfl (Pur.nilCheck rfl) ?_
      refine JQ.pur rfl rfl rfl (Pur.fieldAddr rfl) ?_
      refine JQ.pur rfl rfl rfl (Pur.load rfl (CellIn.blk rfl)) ?_
      refine JQ.pur rfl rfl rfl (Pur.move rfl) ?_
      refine JQ.pur rfl rfl rfl (Pur.nilCheck rfl) ?_
      refine JQ.pur rfl rfl rfl (Pur.fieldAddr rfl) ?_
      refine JQ.pur rfl rfl rfl (Pur.load rfl (CellIn.blk rfl)) ?_
      refine JQ.callE rfl rfl rfl (fsame_pull (L := [blk b52 (.cells #[.pointer (some ⟨q10, 0, none⟩), .pointer (some ⟨s10, 0, none⟩)] 35 (0, 0)), refA s10 (acts σ (bl.take j)), ringA q10 (acts σ (bl.take j)), blk b63 (.cells #[.pointer (some ⟨r, 0, none⟩), .pointer (some ⟨s11, 0, none⟩)] 35 (0, 0)), refA s11 σ, blk p (.cells #[.pointer (some ⟨r, 0, none⟩), .pointer (some ⟨s, 0, none⟩)] 35 (0, 0)), refA s σ, ringA r σ, inp h0]) (r := s10) (q := s) (.tail .head) (.tail (.tail (.tail (.tail (.tail .head))))) hwj hw) ?_
      refine JQ.pur rfl rfl rfl (Pur.eqlB rfl rfl) ?_
      refine JQ.pur rfl rfl rfl (Pur.pickT rfl rfl) ?_
      refine JQ.pur rfl rfl rfl (Pur.move rfl) ?_
      refine JQ.setv (u' := .bool true) 121 rfl (congrArg Value.bool ((by simp))) ?_
      refine JQ.callE rfl rfl rfl (first_ok) ?_
      refine JQ.pur rfl rfl rfl (Pur.pickT rfl rfl) ?_
      refine JQ.pur rfl rfl rfl (Pur.assign rfl) ?_
      refine JQ.nil ?_
      refine J.ret rfl rfl ?_
      exact ⟨_, _, ⟨rfl, rfl⟩, rfl, fun h hs => hs.tail.tail.tail.tail.tail.tail.tail.tail⟩

theorem copies_ok {h0 : Hp} (n : Int) (a : Option Addr) (cap : Nat) (al : List (Int × Int × Int)) [Inp actE h0 a al] (a2 : Option Addr) (cap2 : Nat) (bl : List (Int × Int × Int)) [Inp actE h0 a2 bl] :
    CallS Try.prog 9 [.int .i64 n, .slice a al.length cap, .slice a2 bl.length cap2].toArray [inp h0] (fun v M => v = .bool true ∧ M = [inp h0]) := by
  by_cases hn : 1 ≤ n ∧ n ≤ 8
  · by_cases hl : 200 < al.length
    · exact copies_many n a cap al a2 cap2 bl hn hl
    · by_cases hm : 200 < bl.length
      · exact copies_many2 n a cap al a2 cap2 bl hn (by omega) hm
      · exact copies_good n a cap al a2 cap2 bl hn (by omega) (by omega)
  · exact copies_bad n a cap al a2 cap2 bl (by omega)
end Go.Proofs.Ytnllgmfpejjcnaa
