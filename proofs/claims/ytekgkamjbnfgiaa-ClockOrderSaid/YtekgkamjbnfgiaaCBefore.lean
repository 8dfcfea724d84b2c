/-
  A part of the proof of the claim that this folder bears.
  This text: CBefore.
-/
import Derived.Test.YtekgkamjbnfgiaaCConf
set_option linter.unusedVariables false
set_option linter.unusedSimpArgs false
namespace Go.Proofs.Ytekgkamjbnfgiaa
open Go Go.KK Ck

theorem before_ok {L : List Asn} {b ca : Option Addr} {n cp cn cc : Nat} {xs : List Evt} {hds : List Hdr} {css : List (List Int)} [SlIn evE L b xs] [SlIn rowE L ca hds] (hr : KK.RowsIn intE L hds css) (hn : n = xs.length) (hcn : cn = hds.length) {i k : Int} {ni nk : Nat} (hi : i = (ni : Int)) (hk : k = (nk : Int)) (hil : ni < xs.length) {hI hK : Hdr} {cI cK : List Int} (hI1 : hds[ni]? = some hI) (hI2 : css[ni]? = some cI) (hK1 : hds[nk]? = some hK) (hK2 : css[nk]? = some cK) (hIn : hI.n = cI.length) (hKn : hK.n = cK.length) (ht0 : 0 ≤ xs[ni].task) (htI : xs[ni].task.toNat < cI.length) (htK : xs[ni].task.toNat < cK.length) :
    CallS Try.prog 40 [.slice b n cp, .slice ca cn cc, .int .i64 i, .int .i64 k].toArray L (fun v M => v = .bool (decide (i ≠ k) && decide (cI[xs[ni].task.toNat] ≤ cK[xs[ni].task.toNat])) ∧ M = L) := by
  haveI s1 : SlIn intE L hI.a cI := hr.row hI1 hI2
  haveI s2 : SlIn intE L hK.a cK := hr.row hK1 hK2
  have lI := (List.getElem?_eq_some_iff.1 hI1).1
  have lK := (List.getElem?_eq_some_iff.1 hK1).1
  refine CallS.enter Try.func40 rfl rfl rfl rfl rfl ?_
  refine J.seq rfl ?_
  refine J.region rfl ?_
  refine JO.pur rfl rfl rfl (Pur.assign rfl) ?_
  refine JO.nil ?_
  refine J.seq rfl ?_
  refine J.region rfl ?_
  refine JO.pur rfl rfl rfl (Pur.move rfl) ?_
  refine JO.pur rfl rfl rfl (Pur.move rfl) ?_
  refine JO.pur rfl rfl rfl (Pur.idx rfl rfl rfl (by first | rfl | (simp; done) | omega) hi (by omega)) ?_
  refine JO.pur rfl rfl rfl (Pur.fieldAddr rfl) ?_
  refine JO.pur rfl rfl rfl (Pur.load rfl (CellIn.el rfl (List.getElem?_eq_getElem (by omega)) rfl)) ?_
  refine JO.pur rfl rfl rfl (Pur.assign rfl) ?_
  refine JO.nil ?_
  refine J.seq rfl ?_
  refine J.quiet rfl Try.mixed (by kernel_rfl) ?_
  refine JQ.pur rfl rfl rfl (Pur.move rfl) ?_
  refine JQ.pur rfl rfl rfl (Pur.move rfl) ?_
  refine JQ.pur rfl rfl rfl (Pur.neqI rfl rfl) ?_
  refine JQ.pur rfl rfl rfl (Pur.move rfl) ?_
  refine JQ.splitB 18 rfl (fun h18 => ?_) (fun h18 => ?_)
  · try simp only [decide_eq_true_eq, decide_eq_false_iff_not, Bool.not_eq_true', Bool.not_eq_false', Bool.and_eq_true, Bool.or_eq_true, Bool.and_eq_false_iff, Bool.or_eq_false_iff, Option.isNone_some, Option.isSome_some, Option.isNone_none, Option.isSome_none, Int.not_lt, Int.not_le, beq_iff_eq, beq_eq_false_iff_ne, bne_iff_ne, ne_eq, Bool.not_not, Decidable.not_not] at h18
    refine JQ.pur rfl rfl rfl (Pur.move rfl) ?_
    refine JQ.pur rfl rfl rfl (Pur.move rfl) ?_
    refine JQ.pur rfl rfl rfl (Pur.idx rfl rfl rfl (by first | rfl | (simp; done) | omega) hk (by omega)) ?_
    refine JQ.pur rfl rfl rfl (Pur.load rfl (CellIn.el0 rfl hK1 rfl)) ?_
    refine JQ.pur rfl rfl rfl (Pur.move rfl) ?_
    refine JQ.pur rfl rfl rfl (Pur.idx rfl rfl rfl (by first | rfl | (simp; done) | omega) (Int.toNat_of_nonneg ht0).symm (by omega)) ?_
    refine JQ.pur rfl rfl rfl (Pur.load rfl (CellIn.el0 rfl (List.getElem?_eq_getElem (by omega)) rfl)) ?_
    refine JQ.pur rfl rfl rfl (Pur.move rfl) ?_
    refine JQ.pur rfl rfl rfl (Pur.move rfl) ?_
    refine JQ.pur rfl rfl rfl (Pur.idx rfl rfl rfl (by first | rfl | (simp; done) | omega) hi (by omega)) ?_
    refine JQ.pur rfl rfl rfl (Pur.load rfl (CellIn.el0 rfl hI1 rfl)) ?_
    refine JQ.pur rfl rfl rfl (Pur.move rfl) ?_
    refine JQ.pur rfl rfl rfl (Pur.idx rfl rfl rfl (by first | rfl | (simp; done) | omega) (Int.toNat_of_nonneg ht0).symm (by omega)) ?_
    refine JQ.pur rfl rfl rfl (Pur.load rfl (CellIn.el0 rfl (List.getElem?_eq_getElem (by omega)) rfl)) ?_
    refine JQ.pur rfl rfl rfl (Pur.geq rfl rfl) ?_
    refine JQ.pur rfl rfl rfl (Pur.pickT rfl rfl) ?_
    refine JQ.pur rfl rfl rfl (Pur.assign rfl) ?_
    refine JQ.nil ?_
    refine J.ret rfl rfl ?_
    exact ⟨congrArg Value.bool (by simp_all), rfl⟩
  · try simp only [decide_eq_true_eq, decide_eq_false_iff_not, Bool.not_eq_true', Bool.not_eq_false', Bool.and_eq_true, Bool.or_eq_true, Bool.and_eq_false_iff, Bool.or_eq_false_iff, Option.isNone_some, Option.isSome_some, Option.isNone_none, Option.isSome_none, Int.not_lt, Int.not_le, beq_iff_eq, beq_eq_false_iff_ne, bne_iff_ne, ne_eq, Bool.not_not, Decidable.not_not] at h18
    refine JQ.no rfl rfl rfl ?_
    refine JQ.no rfl rfl rfl ?_
    refine JQ.no rfl rfl rfl ?_
    refine JQ.no rfl rfl rfl ?_
    refine JQ.no rfl rfl rfl ?_
    refine JQ.no rfl rfl rfl ?_
    refine JQ.no rfl rfl rfl ?_
    refine JQ.no rfl rfl rfl ?_
    refine JQ.no rfl rfl rfl ?_
    refine JQ.no rfl rfl rfl ?_
    refine JQ.no rfl rfl rfl ?_
    refine JQ.no rfl rfl rfl ?_
    refine JQ.no rfl rfl rfl ?_
    refine JQ.no rfl rfl rfl ?_
    refine JQ.no rfl rfl rfl ?_
    refine JQ.pur rfl rfl rfl (Pur.pickF rfl rfl) ?_
    refine JQ.pur rfl rfl rfl (Pur.assign rfl) ?_
    refine JQ.nil ?_
    refine J.ret rfl rfl ?_
    exact ⟨congrArg Value.bool (by simp_all), rfl⟩

end Go.Proofs.Ytekgkamjbnfgiaa
