/-
  A part of the proof of the claim that this folder bears.
  This text: CRight2.
-/
import Derived.Test.YtekgkamjbnfgiaaCRight
set_option linter.unusedVariables false
set_option linter.unusedSimpArgs false
namespace Go.Proofs.Ytekgkamjbnfgiaa
open Go Go.KK Ck

theorem containsF_ok {R : List Asn} (c r g : Nat) (a : Option Addr) (cap : Nat) (gm : List (ByteArray × Value)) (hg : Rel gm Ck.start.given) {b : Option Addr} {n cp : Nat} {xs : List Evt} [SlIn evE R b xs] (hn : n = xs.length) (hb : xs.length ≤ 2000) :
    CallS Try.prog 32 [.slice b n cp, .func (.func 33) #[] #[.pointer (some ⟨c, 0, none⟩)]].toArray (blk r (.cells #[.slice a Ck.start.joined.length cap, .map (some g)] 50 (0, 0)) :: sl boolE a cap Ck.start.joined :: mp strK g gm :: blk c (.cells #[.pointer (some ⟨r, 0, none⟩)] 46 (0, 0)) :: R) (fun v M => v = .bool (!okB xs xs.length) ∧ M = R) := by
  refine CallS.enter Try.func32 rfl rfl rfl rfl rfl ?_
  refine J.seq rfl ?_
  refine J.region rfl ?_
  refine JO.pur rfl rfl rfl (Pur.assign rfl) ?_
  refine JO.nil ?_
  refine J.seq rfl ?_
  refine J.region rfl ?_
  refine JO.pur rfl rfl rfl (Pur.move rfl) ?_
  refine JO.pur rfl rfl rfl (Pur.move rfl) ?_
  refine JO.eff rfl rfl rfl (Eff.call rfl (indexF_ok c r g a cap gm hg hn hb)) ?_
  rintro _ _ ⟨k, rfl, hk, rfl⟩
  refine JO.pur rfl rfl rfl (Pur.geq rfl rfl) ?_
  refine JO.pur rfl rfl rfl (Pur.assign rfl) ?_
  refine JO.nil ?_
  refine J.ret rfl rfl ?_
  exact ⟨congrArg Value.bool (by rw [← okB_iff] at hk; by_cases h : okB xs xs.length = true <;> simp_all <;> omega), rfl⟩

theorem right_ok {L : List Asn} {b : Option Addr} {n cp : Nat} {xs : List Evt} [SlIn evE L b xs] (hn : n = xs.length) (hb : xs.length ≤ 9223372036854775807) :
    CallS Try.prog 13 [.slice b n cp].toArray L (fun v M => v = .bool (rightB xs) ∧ M = L) := by
  refine CallS.ent ?_
  refine CallS.enter Try.func13 rfl rfl rfl rfl rfl ?_
  refine J.seq rfl ?_
  refine J.region rfl ?_
  refine JO.pur rfl rfl rfl (Pur.assign rfl) ?_
  refine JO.nil ?_
  refine J.seq rfl ?_
  refine J.region rfl ?_
  refine JO.eff rfl rfl rfl (Eff.buildSlice boolE [false] rfl rfl rfl rfl rfl rfl rfl) ?_
  rintro _ _ ⟨b4, rfl, -, rfl⟩
  refine JO.eff rfl rfl rfl (Eff.makeMap strK) ?_
  rintro _ _ ⟨b5, rfl, rfl⟩
  refine JO.pur rfl rfl rfl (Pur.build (cs := [_, _]) rfl rfl) ?_
  refine JO.eff rfl rfl rfl (Eff.box (cs := [_, _]) rfl rfl) ?_
  rintro _ _ ⟨b7, rfl, rfl⟩
  refine JO.eff rfl rfl rfl (Eff.alloc (cs := [_]) rfl) ?_
  rintro _ _ ⟨b3, rfl, rfl⟩
  refine JO.effN rfl rfl (Eff.storeB rfl rfl rfl .head) ?_
  rintro _ _ ⟨rfl, rfl⟩
  refine JO.nil ?_
  refine J.seq rfl ?_
  refine J.region rfl ?_
  refine JO.pur rfl rfl rfl (Pur.move rfl) ?_
  refine JO.pur rfl rfl rfl (Pur.len rfl) ?_
  refine JO.pur rfl rfl rfl (Pur.leq rfl rfl) ?_
  refine JO.pur rfl rfl rfl (Pur.move rfl) ?_
  refine JO.splitB 11 rfl (fun h11 => ?_) (fun h11 => ?_)
  · try simp only [decide_eq_true_eq, decide_eq_false_iff_not, Bool.not_eq_true', Bool.not_eq_false', Bool.and_eq_true, Bool.or_eq_true, Bool.and_eq_false_iff, Bool.or_eq_false_iff, Option.isNone_some, Option.isSome_some, Option.isNone_none, Option.isSome_none, Int.not_lt, Int.not_le, beq_iff_eq, beq_eq_false_iff_ne, bne_iff_ne, ne_eq, Bool.not_not, Decidable.not_not] at h11
    refine JO.pur rfl rfl rfl (Pur.move rfl) ?_
    refine JO.pur rfl rfl rfl (Pur.makeFunc rfl rfl) ?_
    refine JO.pull (.tail (.tail .head)) ?_
    refine JO.pull (.tail (.tail (.tail .head))) ?_
    refine JO.pull (.tail (.tail (.tail .head))) ?_
    refine JO.eff rfl rfl rfl (Eff.call rfl (containsF_ok b3 b7 b5 _ _ [] (fun _ => rfl) hn (by omega))) ?_
    rintro _ _ ⟨rfl, rfl⟩
    refine JO.pur rfl rfl rfl (Pur.not rfl) ?_
    refine JO.pur rfl rfl rfl (Pur.pickT rfl rfl) ?_
    refine JO.pur rfl rfl rfl (Pur.assign rfl) ?_
    refine JO.nil ?_
    refine J.ret rfl rfl ?_
    first
    | exact ⟨_, _, ⟨rfl, rfl⟩, congrArg Value.bool (by unfold rightB; simp; omega), fun h hs => hs⟩
    | exact ⟨_, _, ⟨rfl, rfl⟩, congrArg Value.bool (by unfold rightB; rw [decide_eq_true (show xs.length ≤ 2000 by omega)]; simp), fun h hs => hs⟩
    | exact ⟨_, _, ⟨rfl, rfl⟩, congrArg Value.bool (by unfold rightB; rw [decide_eq_false (show ¬ xs.length ≤ 2000 by omega)]; rfl), fun h hs => hs.tail.tail.tail.tail⟩
  · try simp only [decide_eq_true_eq, decide_eq_false_iff_not, Bool.not_eq_true', Bool.not_eq_false', Bool.and_eq_true, Bool.or_eq_true, Bool.and_eq_false_iff, Bool.or_eq_false_iff, Option.isNone_some, Option.isSome_some, Option.isNone_none, Option.isSome_none, Int.not_lt, Int.not_le, beq_iff_eq, beq_eq_false_iff_ne, bne_iff_ne, ne_eq, Bool.not_not, Decidable.not_not] at h11
    refine JO.no rfl rfl rfl ?_
    refine JO.no rfl rfl rfl ?_
    refine JO.no rfl rfl rfl ?_
    refine JO.no rfl rfl rfl ?_
    refine JO.pur rfl rfl rfl (Pur.pickF rfl rfl) ?_
    refine JO.pur rfl rfl rfl (Pur.assign rfl) ?_
    refine JO.nil ?_
    refine J.ret rfl rfl ?_
    first
    | exact ⟨_, _, ⟨rfl, rfl⟩, congrArg Value.bool (by unfold rightB; simp; omega), fun h hs => hs⟩
    | exact ⟨_, _, ⟨rfl, rfl⟩, congrArg Value.bool (by unfold rightB; rw [decide_eq_true (show xs.length ≤ 2000 by omega)]; simp), fun h hs => hs⟩
    | exact ⟨_, _, ⟨rfl, rfl⟩, congrArg Value.bool (by unfold rightB; rw [decide_eq_false (show ¬ xs.length ≤ 2000 by omega)]; rfl), fun h hs => hs.tail.tail.tail.tail⟩

end Go.Proofs.Ytekgkamjbnfgiaa
