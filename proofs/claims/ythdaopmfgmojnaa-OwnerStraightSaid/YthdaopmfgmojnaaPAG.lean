/-
  A part of the proof of the claim that this folder bears.
-/
import Derived.Test.YthdaopmfgmojnaaPAF
/- The text ODo. -/
set_option linter.unusedVariables false
set_option linter.unusedSimpArgs false
namespace Go.Proofs.Ythdaopmfgmojnaa
open Go Go.KK Ow

def doW (σ : Sx) (d : Deed) : Sx := if wrongS σ d = sNone then doS σ d else σ
theorem doW_yes {σ : Sx} {d : Deed} (h : wrongS σ d = sNone) : doW σ d = doS σ d := if_pos h
theorem doW_no {σ : Sx} {d : Deed} (h : ¬ wrongS σ d = sNone) : doW σ d = σ := if_neg h
set_option maxRecDepth 10000 in
theorem do_sNew {L : List Asn} {b : Nat} {aa ac af : Option Addr} {ca cc cf : Nat} {σ : Sx} {v w : Str} (g : Ow.Good σ) (hv : isVarB v = true) :
    CallS Try.prog 49 [.pointer (some ⟨b, 0, none⟩), .agg #[.string sNew, .string v, .string w]].toArray (blk b (arr vrE σ.vars [.slice aa σ.alive.length ca, .slice ac σ.count.length cc, .slice af (fz σ.freed).length cf] 66) :: sl boolE aa ca σ.alive :: sl intE ac cc σ.count :: sl intE af cf (fz σ.freed) :: L) (fun x M => ∃ aa' ca' ac' cc' af' cf', x = .string (wrongS σ ⟨sNew, v, w⟩) ∧ M = blk b (arr vrE (doW σ ⟨sNew, v, w⟩).vars [.slice aa' (doW σ ⟨sNew, v, w⟩).alive.length ca', .slice ac' (doW σ ⟨sNew, v, w⟩).count.length cc', .slice af' (fz (doW σ ⟨sNew, v, w⟩).freed).length cf'] 66) :: sl boolE aa' ca' (doW σ ⟨sNew, v, w⟩).alive :: sl intE ac' cc' (doW σ ⟨sNew, v, w⟩).count :: sl intE af' cf' (fz (doW σ ⟨sNew, v, w⟩).freed) :: L) := by
  have hv8 := g.v8
  have hn21 := g.n21
  have hfl := freed_le g
  have hlv : vi v < σ.vars.length := by have := vi_lt hv; omega
  refine CallS.ent ?_
  refine CallS.enter Try.func49 rfl rfl rfl rfl rfl ?_
  refine J.seq rfl ?_
  refine J.region rfl ?_
  refine JO.eff rfl rfl rfl (Eff.box (cs := [_, _, _]) rfl rfl) ?_
  rintro _ _ ⟨b3, rfl, rfl⟩
  refine JO.pur rfl rfl rfl (Pur.assign rfl) ?_
  refine JO.nil ?_
  refine J.seq rfl ?_
  refine J.seq rfl ?_
  refine J.region rfl ?_
  refine JO.pur rfl rfl rfl (Pur.move rfl) ?_
  refine JO.pur rfl rfl rfl (Pur.loadA rfl rfl rfl CellsIn.blk) ?_
  refine JO.eff rfl rfl rfl (Eff.call rfl (CallS.pre (wrong_sNew (aa := aa) (ca := ca) (ac := ac) (cc := cc) (af := af) (cf := cf) (σ := σ) (v := v) (w := w) (L := blk b3 (.cells #[.string sNew, .string v, .string w] 46) :: L) g hv) SubC.out)) ?_
  rintro _ _ ⟨rfl, rfl⟩
  refine JO.pur rfl rfl rfl (Pur.assign rfl) ?_
  refine JO.nil ?_
  refine J.seq rfl ?_
  refine J.region rfl ?_
  refine JO.pur rfl rfl rfl (Pur.move rfl) ?_
  refine JO.pur rfl rfl rfl (Pur.neqT rfl rfl) ?_
  refine JO.nil ?_
  refine J.splitB 12 rfl (fun h12 => ?_) (fun h12 => ?_)
  · try simp only [decide_eq_true_eq, decide_eq_false_iff_not, Bool.not_eq_true', Bool.not_eq_false', Bool.and_eq_true, Bool.or_eq_true, Bool.and_eq_false_iff, Bool.or_eq_false_iff, Option.isNone_some, Option.isSome_some, Option.isNone_none, Option.isSome_none, Int.not_lt, Int.not_le, beq_iff_eq, beq_eq_false_iff_ne, bne_iff_ne, ne_eq, Bool.not_not, Decidable.not_not] at h12
    have hr : ¬ wrongS σ ⟨sNew, v, w⟩ = sNone := h12
    refine J.condT rfl rfl ?_
    refine J.seq rfl ?_
    refine J.region rfl ?_
    refine JO.pur rfl rfl rfl (Pur.move rfl) ?_
    refine JO.pur rfl rfl rfl (Pur.assign rfl) ?_
    refine JO.nil ?_
    refine J.ret rfl rfl ?_
    refine ⟨_, _, ⟨aa, ca, ac, cc, af, cf, rfl, rfl⟩, rfl, fun h s => ?_⟩
    rw [doW_no hr]
    exact SubC.out h s
  · try simp only [decide_eq_true_eq, decide_eq_false_iff_not, Bool.not_eq_true', Bool.not_eq_false', Bool.and_eq_true, Bool.or_eq_true, Bool.and_eq_false_iff, Bool.or_eq_false_iff, Option.isNone_some, Option.isSome_some, Option.isNone_none, Option.isSome_none, Int.not_lt, Int.not_le, beq_iff_eq, beq_eq_false_iff_ne, bne_iff_ne, ne_eq, Bool.not_not, Decidable.not_not] at h12
    have hr : wrongS σ ⟨sNew, v, w⟩ = sNone := h12
    have hR := wrong_none hr
    have hn20 := hR.w1 (show makesB sNew = true by decide)
    have hcl := g.cl
    refine J.condF rfl rfl ?_
    refine J.skip rfl ?_
    refine J.seq rfl ?_
    refine J.region rfl ?_
    refine JO.pur rfl rfl rfl (Pur.move rfl) ?_
    refine JO.pur rfl rfl rfl (Pur.fieldAddr rfl) ?_
    refine JO.pur rfl rfl rfl (Pur.load rfl (CellIn.blk rfl)) ?_
    refine JO.effR rfl rfl rfl (Eff.call rfl (at_ok v hv)) ?_
    refine JO.pur rfl rfl rfl (Pur.assign rfl) ?_
    refine JO.nil ?_
    refine J.seq rfl ?_
    refine J.seq rfl ?_
    refine J.region rfl ?_
    refine JO.pur rfl rfl rfl (Pur.fieldAddr rfl) ?_
    refine JO.pur rfl rfl rfl (Pur.load rfl (CellIn.blk rfl)) ?_
    refine JO.nil ?_
    refine J.block rfl ?_
    refine J.seq rfl ?_
    refine J.seq rfl ?_
    refine J.region rfl ?_
    refine JO.pur rfl rfl rfl (Pur.eqlT rfl rfl) ?_
    refine JO.setv (u' := .bool true) 21 rfl (congrArg Value.bool (by decide)) ?_
    refine JO.pur rfl rfl rfl (Pur.assign rfl) ?_
    refine JO.nil ?_
    refine J.condT rfl rfl ?_
    refine J.skip rfl ?_
    refine J.condT rfl rfl ?_
    refine J.seq rfl ?_
    refine J.mask0 (n := 12) [11] rfl Try.mixed rfl (by kernel_rfl) ?_
    refine JM.take 0 (fun _ h => h) rfl (by kernel_rfl) rfl rfl rfl (m' := 1) rfl (Pur.move rfl) ?_
    refine JM.take 1 (fun _ h => h) rfl (by kernel_rfl) rfl rfl rfl (m' := 3) rfl (Pur.fieldAddr rfl) ?_
    refine JM.take 2 (fun _ h => h) rfl (by kernel_rfl) rfl rfl rfl (m' := 7) rfl (Pur.load rfl (CellIn.blk rfl)) ?_
    refine JM.take 4 (fun _ h => h) rfl (by kernel_rfl) rfl rfl rfl (m' := 23) rfl (Pur.move rfl) ?_
    refine JM.take 5 (fun _ h => h) rfl (by kernel_rfl) rfl rfl rfl (m' := 55) rfl (Pur.nilCheck rfl) ?_
    refine JM.take 6 (fun _ h => h) rfl (by kernel_rfl) rfl rfl rfl (m' := 119) rfl (Pur.fieldAddr rfl) ?_
    refine JM.take 7 (fun _ h => h) rfl (by kernel_rfl) rfl rfl rfl (m' := 247) rfl (Pur.load rfl (CellIn.arrT (n := 16) (k := 0) (by first | (rw [hv8]; rfl) | (rw [List.length_set, hv8]; rfl) | (rw [List.length_set, List.length_set, hv8]; rfl)) rfl)) ?_
    refine JM.take 8 (fun _ h => h) rfl (by kernel_rfl) rfl rfl rfl (m' := 503) rfl (Pur.len rfl) ?_
    refine JM.one (i := 3) (by kernel_rfl) ?_
    refine JMi.effR (fun _ h => h) rfl rfl rfl rfl (m' := 511) rfl (Eff.call rfl ((CallS.eqv (v' := .int .i64 (mannerOf sNew : Int)) (manner_ok sNew) rfl))) ?_
    refine JM.take 9 (fun _ h => h) rfl (by kernel_rfl) rfl rfl rfl (m' := 1023) rfl (Pur.build (cs := [_, _]) rfl rfl) ?_
    refine JM.take 10 (fun _ h => h) rfl (by kernel_rfl) rfl rfl rfl (m' := 2047) rfl (Pur.nilCheck rfl) ?_
    refine JM.one (i := 11) (by kernel_rfl) ?_
    refine JMi.effN rfl rfl rfl (m' := 4095) rfl (Eff.storeArr (E := vrE) (z' := ⟨mannerOf sNew, σ.alive.length⟩) rfl rfl rfl rfl hlv rfl) ?_
    rintro _ _ ⟨rfl, rfl⟩
    refine ⟨.inl (by simp), ?_⟩
    refine JM.done rfl ?_
    refine J.seq rfl ?_
    refine J.region rfl ?_
    refine JO.pur rfl rfl rfl (Pur.move rfl) ?_
    refine JO.pur rfl rfl rfl (Pur.move rfl) ?_
    refine JO.pur rfl rfl rfl (Pur.nilCheck rfl) ?_
    refine JO.pur rfl rfl rfl (Pur.fieldAddr rfl) ?_
    refine JO.pur rfl rfl rfl (Pur.load rfl (CellIn.arrT (n := 16) (k := 0) (by first | (rw [hv8]; rfl) | (rw [List.length_set, hv8]; rfl) | (rw [List.length_set, List.length_set, hv8]; rfl)) rfl)) ?_
    refine JO.eff rfl rfl rfl (Eff.buildSlice boolE [true] rfl rfl rfl rfl rfl rfl rfl) ?_
    rintro _ _ ⟨b40, rfl, -, rfl⟩
    refine JO.eff rfl rfl rfl (Eff.append rfl rfl rfl rfl (by first | rfl | omega | (simp; done) | (simp; omega)) (by first | rfl | omega | (simp; done) | (simp; omega)) (by decide) (by first | omega | (simp only [List.length_cons, List.length_nil]; omega) | (simp; omega)) (by first | omega | (simp only [List.length_cons, List.length_nil]; omega) | (simp; omega)) (fun h => by cases h)) ?_
    rintro _ _ ⟨a41, c41, rfl, rfl⟩
    refine JO.pur rfl rfl rfl (Pur.nilCheck rfl) ?_
    refine JO.pur rfl rfl rfl (Pur.fieldAddr rfl) ?_
    refine JO.effN rfl rfl (Eff.storeArrT (n := 16) (k := 0) rfl rfl rfl (by first | (rw [hv8]; rfl) | (rw [List.length_set, hv8]; rfl) | (rw [List.length_set, List.length_set, hv8]; rfl)) .head) ?_
    rintro _ _ ⟨rfl, rfl⟩
    refine JO.nil ?_
    refine J.region rfl ?_
    refine JO.pur rfl rfl rfl (Pur.move rfl) ?_
    refine JO.pur rfl rfl rfl (Pur.move rfl) ?_
    refine JO.pur rfl rfl rfl (Pur.nilCheck rfl) ?_
    refine JO.pur rfl rfl rfl (Pur.fieldAddr rfl) ?_
    refine JO.pur rfl rfl rfl (Pur.load rfl (CellIn.arrT (n := 16) (k := 1) (by first | (rw [hv8]; rfl) | (rw [List.length_set, hv8]; rfl) | (rw [List.length_set, List.length_set, hv8]; rfl)) rfl)) ?_
    refine JO.eff rfl rfl rfl (Eff.buildSlice intE [1] rfl rfl rfl rfl rfl rfl rfl) ?_
    rintro _ _ ⟨b49, rfl, -, rfl⟩
    refine JO.eff rfl rfl rfl (Eff.append rfl rfl rfl rfl (by first | rfl | omega | (simp; done) | (simp; omega)) (by first | rfl | omega | (simp; done) | (simp; omega)) (by decide) (by first | omega | (simp only [List.length_cons, List.length_nil]; omega) | (simp; omega)) (by first | omega | (simp only [List.length_cons, List.length_nil]; omega) | (simp; omega)) (fun h => by cases h)) ?_
    rintro _ _ ⟨a50, c50, rfl, rfl⟩
    refine JO.pur rfl rfl rfl (Pur.nilCheck rfl) ?_
    refine JO.pur rfl rfl rfl (Pur.fieldAddr rfl) ?_
    refine JO.effN rfl rfl (Eff.storeArrT (n := 16) (k := 1) rfl rfl rfl (by first | (rw [hv8]; rfl) | (rw [List.length_set, hv8]; rfl) | (rw [List.length_set, List.length_set, hv8]; rfl)) (.tail .head)) ?_
    rintro _ _ ⟨rfl, rfl⟩
    refine JO.nil ?_
    refine J.inBlock ?_
    refine J.seq rfl ?_
    refine J.region rfl ?_
    refine JO.pur rfl rfl rfl (Pur.assign rfl) ?_
    refine JO.nil ?_
    refine J.ret rfl rfl ?_
    have hdo : doW σ ⟨sNew, v, w⟩ = ⟨σ.vars.set (vi v) ⟨mannerOf sNew, σ.alive.length⟩, σ.alive ++ [true], σ.count ++ [1], σ.freed, σ.kind ++ [mannerOf sNew]⟩ := by rw [doW_yes hr]; unfold doS; simp only [makesB, fromB, n_sNew_sShare, n_sNew_sRaw, n_sNew_sUse, n_sNew_sFree, n_sNew_sDrop, n_sNew_sMove, n_sNew_sCopy, n_sNew_sBorrow, n_sNew_sEither, n_sNew_sOr, n_sNew_sEnd, decide_true, decide_false, Bool.or_true, Bool.or_false, Bool.false_or, Bool.true_or, if_true, if_false, Bool.false_eq_true, ite_true, ite_false, reduceIte]
    refine ⟨_, _, ⟨a41, c41, a50, c50, af, cf, by rw [hr]; rfl, rfl⟩, rfl, fun h s => ?_⟩
    rw [hdo]
    try dsimp only
    rw [List.length_append, List.length_append]
    exact SubC.out h s

set_option maxRecDepth 10000 in
theorem do_sShare {L : List Asn} {b : Nat} {aa ac af : Option Addr} {ca cc cf : Nat} {σ : Sx} {v w : Str} (g : Ow.Good σ) (hv : isVarB v = true) :
    CallS Try.prog 49 [.pointer (some ⟨b, 0, none⟩), .agg #[.string sShare, .string v, .string w]].toArray (blk b (arr vrE σ.vars [.slice aa σ.alive.length ca, .slice ac σ.count.length cc, .slice af (fz σ.freed).length cf] 66) :: sl boolE aa ca σ.alive :: sl intE ac cc σ.count :: sl intE af cf (fz σ.freed) :: L) (fun x M => ∃ aa' ca' ac' cc' af' cf', x = .string (wrongS σ ⟨sShare, v, w⟩) ∧ M = blk b (arr vrE (doW σ ⟨sShare, v, w⟩).vars [.slice aa' (doW σ ⟨sShare, v, w⟩).alive.length ca', .slice ac' (doW σ ⟨sShare, v, w⟩).count.length cc', .slice af' (fz (doW σ ⟨sShare, v, w⟩).freed).length cf'] 66) :: sl boolE aa' ca' (doW σ ⟨sShare, v, w⟩).alive :: sl intE ac' cc' (doW σ ⟨sShare, v, w⟩).count :: sl intE af' cf' (fz (doW σ ⟨sShare, v, w⟩).freed) :: L) := by
  have hv8 := g.v8
  have hn21 := g.n21
  have hfl := freed_le g
  have hlv : vi v < σ.vars.length := by have := vi_lt hv; omega
  refine CallS.ent ?_
  refine CallS.enter Try.func49 rfl rfl rfl rfl rfl ?_
  refine J.seq rfl ?_
  refine J.region rfl ?_
  refine JO.eff rfl rfl rfl (Eff.box (cs := [_, _, _]) rfl rfl) ?_
  rintro _ _ ⟨b3, rfl, rfl⟩
  refine JO.pur rfl rfl rfl (Pur.assign rfl) ?_
  refine JO.nil ?_
  refine J.seq rfl ?_
  refine J.seq rfl ?_
  refine J.region rfl ?_
  refine JO.pur rfl rfl rfl (Pur.move rfl) ?_
  refine JO.pur rfl rfl rfl (Pur.loadA rfl rfl rfl CellsIn.blk) ?_
  refine JO.eff rfl rfl rfl (Eff.call rfl (CallS.pre (wrong_sShare (aa := aa) (ca := ca) (ac := ac) (cc := cc) (af := af) (cf := cf) (σ := σ) (v := v) (w := w) (L := blk b3 (.cells #[.string sShare, .string v, .string w] 46) :: L) g hv) SubC.out)) ?_
  rintro _ _ ⟨rfl, rfl⟩
  refine JO.pur rfl rfl rfl (Pur.assign rfl) ?_
  refine JO.nil ?_
  refine J.seq rfl ?_
  refine J.region rfl ?_
  refine JO.pur rfl rfl rfl (Pur.move rfl) ?_
  refine JO.pur rfl rfl rfl (Pur.neqT rfl rfl) ?_
  refine JO.nil ?_
  refine J.splitB 12 rfl (fun h12 => ?_) (fun h12 => ?_)
  · try simp only [decide_eq_true_eq, decide_eq_false_iff_not, Bool.not_eq_true', Bool.not_eq_false', Bool.and_eq_true, Bool.or_eq_true, Bool.and_eq_false_iff, Bool.or_eq_false_iff, Option.isNone_some, Option.isSome_some, Option.isNone_none, Option.isSome_none, Int.not_lt, Int.not_le, beq_iff_eq, beq_eq_false_iff_ne, bne_iff_ne, ne_eq, Bool.not_not, Decidable.not_not] at h12
    have hr : ¬ wrongS σ ⟨sShare, v, w⟩ = sNone := h12
    refine J.condT rfl rfl ?_
    refine J.seq rfl ?_
    refine J.region rfl ?_
    refine JO.pur rfl rfl rfl (Pur.move rfl) ?_
    refine JO.pur rfl rfl rfl (Pur.assign rfl) ?_
    refine JO.nil ?_
    refine J.ret rfl rfl ?_
    refine ⟨_, _, ⟨aa, ca, ac, cc, af, cf, rfl, rfl⟩, rfl, fun h s => ?_⟩
    rw [doW_no hr]
    exact SubC.out h s
  · try simp only [decide_eq_true_eq, decide_eq_false_iff_not, Bool.not_eq_true', Bool.not_eq_false', Bool.and_eq_true, Bool.or_eq_true, Bool.and_eq_false_iff, Bool.or_eq_false_iff, Option.isNone_some, Option.isSome_some, Option.isNone_none, Option.isSome_none, Int.not_lt, Int.not_le, beq_iff_eq, beq_eq_false_iff_ne, bne_iff_ne, ne_eq, Bool.not_not, Decidable.not_not] at h12
    have hr : wrongS σ ⟨sShare, v, w⟩ = sNone := h12
    have hR := wrong_none hr
    have hn20 := hR.w1 (show makesB sShare = true by decide)
    have hcl := g.cl
    refine J.condF rfl rfl ?_
    refine J.skip rfl ?_
    refine J.seq rfl ?_
    refine J.region rfl ?_
    refine JO.pur rfl rfl rfl (Pur.move rfl) ?_
    refine JO.pur rfl rfl rfl (Pur.fieldAddr rfl) ?_
    refine JO.pur rfl rfl rfl (Pur.load rfl (CellIn.blk rfl)) ?_
    refine JO.effR rfl rfl rfl (Eff.call rfl (at_ok v hv)) ?_
    refine JO.pur rfl rfl rfl (Pur.assign rfl) ?_
    refine JO.nil ?_
    refine J.seq rfl ?_
    refine J.seq rfl ?_
    refine J.region rfl ?_
    refine JO.pur rfl rfl rfl (Pur.fieldAddr rfl) ?_
    refine JO.pur rfl rfl rfl (Pur.load rfl (CellIn.blk rfl)) ?_
    refine JO.nil ?_
    refine J.block rfl ?_
    refine J.seq rfl ?_
    refine J.seq rfl ?_
    refine J.region rfl ?_
    refine JO.pur rfl rfl rfl (Pur.eqlT rfl rfl) ?_
    refine JO.setv (u' := .bool false) 21 rfl (congrArg Value.bool (by decide)) ?_
    refine JO.pur rfl rfl rfl (Pur.assign rfl) ?_
    refine JO.nil ?_
    refine J.condF rfl rfl ?_
    refine J.seq rfl ?_
    refine J.region rfl ?_
    refine JO.pur rfl rfl rfl (Pur.eqlT rfl rfl) ?_
    refine JO.setv (u' := .bool true) 22 rfl (congrArg Value.bool (by decide)) ?_
    refine JO.pur rfl rfl rfl (Pur.assign rfl) ?_
    refine JO.nil ?_
    refine J.condT rfl rfl ?_
    refine J.skip rfl ?_
    refine J.condT rfl rfl ?_
    refine J.seq rfl ?_
    refine J.mask0 (n := 12) [11] rfl Try.mixed rfl (by kernel_rfl) ?_
    refine JM.take 0 (fun _ h => h) rfl (by kernel_rfl) rfl rfl rfl (m' := 1) rfl (Pur.move rfl) ?_
    refine JM.take 1 (fun _ h => h) rfl (by kernel_rfl) rfl rfl rfl (m' := 3) rfl (Pur.fieldAddr rfl) ?_
    refine JM.take 2 (fun _ h => h) rfl (by kernel_rfl) rfl rfl rfl (m' := 7) rfl (Pur.load rfl (CellIn.blk rfl)) ?_
    refine JM.take 4 (fun _ h => h) rfl (by kernel_rfl) rfl rfl rfl (m' := 23) rfl (Pur.move rfl) ?_
    refine JM.take 5 (fun _ h => h) rfl (by kernel_rfl) rfl rfl rfl (m' := 55) rfl (Pur.nilCheck rfl) ?_
    refine JM.take 6 (fun _ h => h) rfl (by kernel_rfl) rfl rfl rfl (m' := 119) rfl (Pur.fieldAddr rfl) ?_
    refine JM.take 7 (fun _ h => h) rfl (by kernel_rfl) rfl rfl rfl (m' := 247) rfl (Pur.load rfl (CellIn.arrT (n := 16) (k := 0) (by first | (rw [hv8]; rfl) | (rw [List.length_set, hv8]; rfl) | (rw [List.length_set, List.length_set, hv8]; rfl)) rfl)) ?_
    refine JM.take 8 (fun _ h => h) rfl (by kernel_rfl) rfl rfl rfl (m' := 503) rfl (Pur.len rfl) ?_
    refine JM.one (i := 3) (by kernel_rfl) ?_
    refine JMi.effR (fun _ h => h) rfl rfl rfl rfl (m' := 511) rfl (Eff.call rfl ((CallS.eqv (v' := .int .i64 (mannerOf sShare : Int)) (manner_ok sShare) rfl))) ?_
    refine JM.take 9 (fun _ h => h) rfl (by kernel_rfl) rfl rfl rfl (m' := 1023) rfl (Pur.build (cs := [_, _]) rfl rfl) ?_
    refine JM.take 10 (fun _ h => h) rfl (by kernel_rfl) rfl rfl rfl (m' := 2047) rfl (Pur.nilCheck rfl) ?_
    refine JM.one (i := 11) (by kernel_rfl) ?_
    refine JMi.effN rfl rfl rfl (m' := 4095) rfl (Eff.storeArr (E := vrE) (z' := ⟨mannerOf sShare, σ.alive.length⟩) rfl rfl rfl rfl hlv rfl) ?_
    rintro _ _ ⟨rfl, rfl⟩
    refine ⟨.inl (by simp), ?_⟩
    refine JM.done rfl ?_
    refine J.seq rfl ?_
    refine J.region rfl ?_
    refine JO.pur rfl rfl rfl (Pur.move rfl) ?_
    refine JO.pur rfl rfl rfl (Pur.move rfl) ?_
    refine JO.pur rfl rfl rfl (Pur.nilCheck rfl) ?_
    refine JO.pur rfl rfl rfl (Pur.fieldAddr rfl) ?_
    refine JO.pur rfl rfl rfl (Pur.load rfl (CellIn.arrT (n := 16) (k := 0) (by first | (rw [hv8]; rfl) | (rw [List.length_set, hv8]; rfl) | (rw [List.length_set, List.length_set, hv8]; rfl)) rfl)) ?_
    refine JO.eff rfl rfl rfl (Eff.buildSlice boolE [true] rfl rfl rfl rfl rfl rfl rfl) ?_
    rintro _ _ ⟨b40, rfl, -, rfl⟩
    refine JO.eff rfl rfl rfl (Eff.append rfl rfl rfl rfl (by first | rfl | omega | (simp; done) | (simp; omega)) (by first | rfl | omega | (simp; done) | (simp; omega)) (by decide) (by first | omega | (simp only [List.length_cons, List.length_nil]; omega) | (simp; omega)) (by first | omega | (simp only [List.length_cons, List.length_nil]; omega) | (simp; omega)) (fun h => by cases h)) ?_
    rintro _ _ ⟨a41, c41, rfl, rfl⟩
    refine JO.pur rfl rfl rfl (Pur.nilCheck rfl) ?_
    refine JO.pur rfl rfl rfl (Pur.fieldAddr rfl) ?_
    refine JO.effN rfl rfl (Eff.storeArrT (n := 16) (k := 0) rfl rfl rfl (by first | (rw [hv8]; rfl) | (rw [List.length_set, hv8]; rfl) | (rw [List.length_set, List.length_set, hv8]; rfl)) .head) ?_
    rintro _ _ ⟨rfl, rfl⟩
    refine JO.nil ?_
    refine J.region rfl ?_
    refine JO.pur rfl rfl rfl (Pur.move rfl) ?_
    refine JO.pur rfl rfl rfl (Pur.move rfl) ?_
    refine JO.pur rfl rfl rfl (Pur.nilCheck rfl) ?_
    refine JO.pur rfl rfl rfl (Pur.fieldAddr rfl) ?_
    refine JO.pur rfl rfl rfl (Pur.load rfl (CellIn.arrT (n := 16) (k := 1) (by first | (rw [hv8]; rfl) | (rw [List.length_set, hv8]; rfl) | (rw [List.length_set, List.length_set, hv8]; rfl)) rfl)) ?_
    refine JO.eff rfl rfl rfl (Eff.buildSlice intE [1] rfl rfl rfl rfl rfl rfl rfl) ?_
    rintro _ _ ⟨b49, rfl, -, rfl⟩
    refine JO.eff rfl rfl rfl (Eff.append rfl rfl rfl rfl (by first | rfl | omega | (simp; done) | (simp; omega)) (by first | rfl | omega | (simp; done) | (simp; omega)) (by decide) (by first | omega | (simp only [List.length_cons, List.length_nil]; omega) | (simp; omega)) (by first | omega | (simp only [List.length_cons, List.length_nil]; omega) | (simp; omega)) (fun h => by cases h)) ?_
    rintro _ _ ⟨a50, c50, rfl, rfl⟩
    refine JO.pur rfl rfl rfl (Pur.nilCheck rfl) ?_
    refine JO.pur rfl rfl rfl (Pur.fieldAddr rfl) ?_
    refine JO.effN rfl rfl (Eff.storeArrT (n := 16) (k := 1) rfl rfl rfl (by first | (rw [hv8]; rfl) | (rw [List.length_set, hv8]; rfl) | (rw [List.length_set, List.length_set, hv8]; rfl)) (.tail .head)) ?_
    rintro _ _ ⟨rfl, rfl⟩
    refine JO.nil ?_
    refine J.inBlock ?_
    refine J.seq rfl ?_
    refine J.region rfl ?_
    refine JO.pur rfl rfl rfl (Pur.assign rfl) ?_
    refine JO.nil ?_
    refine J.ret rfl rfl ?_
    have hdo : doW σ ⟨sShare, v, w⟩ = ⟨σ.vars.set (vi v) ⟨mannerOf sShare, σ.alive.length⟩, σ.alive ++ [true], σ.count ++ [1], σ.freed, σ.kind ++ [mannerOf sShare]⟩ := by rw [doW_yes hr]; unfold doS; simp only [makesB, fromB, n_sShare_sNew, n_sShare_sRaw, n_sShare_sUse, n_sShare_sFree, n_sShare_sDrop, n_sShare_sMove, n_sShare_sCopy, n_sShare_sBorrow, n_sShare_sEither, n_sShare_sOr, n_sShare_sEnd, decide_true, decide_false, Bool.or_true, Bool.or_false, Bool.false_or, Bool.true_or, if_true, if_false, Bool.false_eq_true, ite_true, ite_false, reduceIte]
    refine ⟨_, _, ⟨a41, c41, a50, c50, af, cf, by rw [hr]; rfl, rfl⟩, rfl, fun h s => ?_⟩
    rw [hdo]
    try dsimp only
    rw [List.length_append, List.length_append]
    exact SubC.out h s

set_option maxRecDepth 10000 in
theorem do_sRaw {L : List Asn} {b : Nat} {aa ac af : Option Addr} {ca cc cf : Nat} {σ : Sx} {v w : Str} (g : Ow.Good σ) (hv : isVarB v = true) :
    CallS Try.prog 49 [.pointer (some ⟨b, 0, none⟩), .agg #[.string sRaw, .string v, .string w]].toArray (blk b (arr vrE σ.vars [.slice aa σ.alive.length ca, .slice ac σ.count.length cc, .slice af (fz σ.freed).length cf] 66) :: sl boolE aa ca σ.alive :: sl intE ac cc σ.count :: sl intE af cf (fz σ.freed) :: L) (fun x M => ∃ aa' ca' ac' cc' af' cf', x = .string (wrongS σ ⟨sRaw, v, w⟩) ∧ M = blk b (arr vrE (doW σ ⟨sRaw, v, w⟩).vars [.slice aa' (doW σ ⟨sRaw, v, w⟩).alive.length ca', .slice ac' (doW σ ⟨sRaw, v, w⟩).count.length cc', .slice af' (fz (doW σ ⟨sRaw, v, w⟩).freed).length cf'] 66) :: sl boolE aa' ca' (doW σ ⟨sRaw, v, w⟩).alive :: sl intE ac' cc' (doW σ ⟨sRaw, v, w⟩).count :: sl intE af' cf' (fz (doW σ ⟨sRaw, v, w⟩).freed) :: L) := by
  have hv8 := g.v8
  have hn21 := g.n21
  have hfl := freed_le g
  have hlv : vi v < σ.vars.length := by have := vi_lt hv; omega
  refine CallS.ent ?_
  refine CallS.enter Try.func49 rfl rfl rfl rfl rfl ?_
  refine J.seq rfl ?_
  refine J.region rfl ?_
  refine JO.eff rfl rfl rfl (Eff.box (cs := [_, _, _]) rfl rfl) ?_
  rintro _ _ ⟨b3, rfl, rfl⟩
  refine JO.pur rfl rfl rfl (Pur.assign rfl) ?_
  refine JO.nil ?_
  refine J.seq rfl ?_
  refine J.seq rfl ?_
  refine J.region rfl ?_
  refine JO.pur rfl rfl rfl (Pur.move rfl) ?_
  refine JO.pur rfl rfl rfl (Pur.loadA rfl rfl rfl CellsIn.blk) ?_
  refine JO.eff rfl rfl rfl (Eff.call rfl (CallS.pre (wrong_sRaw (aa := aa) (ca := ca) (ac := ac) (cc := cc) (af := af) (cf := cf) (σ := σ) (v := v) (w := w) (L := blk b3 (.cells #[.string sRaw, .string v, .string w] 46) :: L) g hv) SubC.out)) ?_
  rintro _ _ ⟨rfl, rfl⟩
  refine JO.pur rfl rfl rfl (Pur.assign rfl) ?_
  refine JO.nil ?_
  refine J.seq rfl ?_
  refine J.region rfl ?_
  refine JO.pur rfl rfl rfl (Pur.move rfl) ?_
  refine JO.pur rfl rfl rfl (Pur.neqT rfl rfl) ?_
  refine JO.nil ?_
  refine J.splitB 12 rfl (fun h12 => ?_) (fun h12 => ?_)
  · try simp only [decide_eq_true_eq, decide_eq_false_iff_not, Bool.not_eq_true', Bool.not_eq_false', Bool.and_eq_true, Bool.or_eq_true, Bool.and_eq_false_iff, Bool.or_eq_false_iff, Option.isNone_some, Option.isSome_some, Option.isNone_none, Option.isSome_none, Int.not_lt, Int.not_le, beq_iff_eq, beq_eq_false_iff_ne, bne_iff_ne, ne_eq, Bool.not_not, Decidable.not_not] at h12
    have hr : ¬ wrongS σ ⟨sRaw, v, w⟩ = sNone := h12
    refine J.condT rfl rfl ?_
    refine J.seq rfl ?_
    refine J.region rfl ?_
    refine JO.pur rfl rfl rfl (Pur.move rfl) ?_
    refine JO.pur rfl rfl rfl (Pur.assign rfl) ?_
    refine JO.nil ?_
    refine J.ret rfl rfl ?_
    refine ⟨_, _, ⟨aa, ca, ac, cc, af, cf, rfl, rfl⟩, rfl, fun h s => ?_⟩
    rw [doW_no hr]
    exact SubC.out h s
  · try simp only [decide_eq_true_eq, decide_eq_false_iff_not, Bool.not_eq_true', Bool.not_eq_false', Bool.and_eq_true, Bool.or_eq_true, Bool.and_eq_false_iff, Bool.or_eq_false_iff, Option.isNone_some, Option.isSome_some, Option.isNone_none, Option.isSome_none, Int.not_lt, Int.not_le, beq_iff_eq, beq_eq_false_iff_ne, bne_iff_ne, ne_eq, Bool.not_not, Decidable.not_not] at h12
    have hr : wrongS σ ⟨sRaw, v, w⟩ = sNone := h12
    have hR := wrong_none hr
    have hn20 := hR.w1 (show makesB sRaw = true by decide)
    have hcl := g.cl
    refine J.condF rfl rfl ?_
    refine J.skip rfl ?_
    refine J.seq rfl ?_
    refine J.region rfl ?_
    refine JO.pur rfl rfl rfl (Pur.move rfl) ?_
    refine JO.pur rfl rfl rfl (Pur.fieldAddr rfl) ?_
    refine JO.pur rfl rfl rfl (Pur.load rfl (CellIn.blk rfl)) ?_
    refine JO.effR rfl rfl rfl (Eff.call rfl (at_ok v hv)) ?_
    refine JO.pur rfl rfl rfl (Pur.assign rfl) ?_
    refine JO.nil ?_
    refine J.seq rfl ?_
    refine J.seq rfl ?_
    refine J.region rfl ?_
    refine JO.pur rfl rfl rfl (Pur.fieldAddr rfl) ?_
    refine JO.pur rfl rfl rfl (Pur.load rfl (CellIn.blk rfl)) ?_
    refine JO.nil ?_
    refine J.block rfl ?_
    refine J.seq rfl ?_
    refine J.seq rfl ?_
    refine J.region rfl ?_
    refine JO.pur rfl rfl rfl (Pur.eqlT rfl rfl) ?_
    refine JO.setv (u' := .bool false) 21 rfl (congrArg Value.bool (by decide)) ?_
    refine JO.pur rfl rfl rfl (Pur.assign rfl) ?_
    refine JO.nil ?_
    refine J.condF rfl rfl ?_
    refine J.seq rfl ?_
    refine J.region rfl ?_
    refine JO.pur rfl rfl rfl (Pur.eqlT rfl rfl) ?_
    refine JO.setv (u' := .bool false) 22 rfl (congrArg Value.bool (by decide)) ?_
    refine JO.pur rfl rfl rfl (Pur.assign rfl) ?_
    refine JO.nil ?_
    refine J.condF rfl rfl ?_
    refine J.region rfl ?_
    refine JO.pur rfl rfl rfl (Pur.eqlT rfl rfl) ?_
    refine JO.setv (u' := .bool true) 23 rfl (congrArg Value.bool (by decide)) ?_
    refine JO.pur rfl rfl rfl (Pur.assign rfl) ?_
    refine JO.nil ?_
    refine J.condT rfl rfl ?_
    refine J.seq rfl ?_
    refine J.mask0 (n := 12) [11] rfl Try.mixed rfl (by kernel_rfl) ?_
    refine JM.take 0 (fun _ h => h) rfl (by kernel_rfl) rfl rfl rfl (m' := 1) rfl (Pur.move rfl) ?_
    refine JM.take 1 (fun _ h => h) rfl (by kernel_rfl) rfl rfl rfl (m' := 3) rfl (Pur.fieldAddr rfl) ?_
    refine JM.take 2 (fun _ h => h) rfl (by kernel_rfl) rfl rfl rfl (m' := 7) rfl (Pur.load rfl (CellIn.blk rfl)) ?_
    refine JM.take 4 (fun _ h => h) rfl (by kernel_rfl) rfl rfl rfl (m' := 23) rfl (Pur.move rfl) ?_
    refine JM.take 5 (fun _ h => h) rfl (by kernel_rfl) rfl rfl rfl (m' := 55) rfl (Pur.nilCheck rfl) ?_
    refine JM.take 6 (fun _ h => h) rfl (by kernel_rfl) rfl rfl rfl (m' := 119) rfl (Pur.fieldAddr rfl) ?_
    refine JM.take 7 (fun _ h => h) rfl (by kernel_rfl) rfl rfl rfl (m' := 247) rfl (Pur.load rfl (CellIn.arrT (n := 16) (k := 0) (by first | (rw [hv8]; rfl) | (rw [List.length_set, hv8]; rfl) | (rw [List.length_set, List.length_set, hv8]; rfl)) rfl)) ?_
    refine JM.take 8 (fun _ h => h) rfl (by kernel_rfl) rfl rfl rfl (m' := 503) rfl (Pur.len rfl) ?_
    refine JM.one (i := 3) (by kernel_rfl) ?_
    refine JMi.effR (fun _ h => h) rfl rfl rfl rfl (m' := 511) rfl (Eff.call rfl ((CallS.eqv (v' := .int .i64 (mannerOf sRaw : Int)) (manner_ok sRaw) rfl))) ?_
    refine JM.take 9 (fun _ h => h) rfl (by kernel_rfl) rfl rfl rfl (m' := 1023) rfl (Pur.build (cs := [_, _]) rfl rfl) ?_
    refine JM.take 10 (fun _ h => h) rfl (by kernel_rfl) rfl rfl rfl (m' := 2047) rfl (Pur.nilCheck rfl) ?_
    refine JM.one (i := 11) (by kernel_rfl) ?_
    refine JMi.effN rfl rfl rfl (m' := 4095) rfl (Eff.storeArr (E := vrE) (z' := ⟨mannerOf sRaw, σ.alive.length⟩) rfl rfl rfl rfl hlv rfl) ?_
    rintro _ _ ⟨rfl, rfl⟩
    refine ⟨.inl (by simp), ?_⟩
    refine JM.done rfl ?_
    refine J.seq rfl ?_
    refine J.region rfl ?_
    refine JO.pur rfl rfl rfl (Pur.move rfl) ?_
    refine JO.pur rfl rfl rfl (Pur.move rfl) ?_
    refine JO.pur rfl rfl rfl (Pur.nilCheck rfl) ?_
    refine JO.pur rfl rfl rfl (Pur.fieldAddr rfl) ?_
    refine JO.pur rfl rfl rfl (Pur.load rfl (CellIn.arrT (n := 16) (k := 0) (by first | (rw [hv8]; rfl) | (rw [List.length_set, hv8]; rfl) | (rw [List.length_set, List.length_set, hv8]; rfl)) rfl)) ?_
    refine JO.eff rfl rfl rfl (Eff.buildSlice boolE [true] rfl rfl rfl rfl rfl rfl rfl) ?_
    rintro _ _ ⟨b40, rfl, -, rfl⟩
    refine JO.eff rfl rfl rfl (Eff.append rfl rfl rfl rfl (by first | rfl | omega | (simp; done) | (simp; omega)) (by first | rfl | omega | (simp; done) | (simp; omega)) (by decide) (by first | omega | (simp only [List.length_cons, List.length_nil]; omega) | (simp; omega)) (by first | omega | (simp only [List.length_cons, List.length_nil]; omega) | (simp; omega)) (fun h => by cases h)) ?_
    rintro _ _ ⟨a41, c41, rfl, rfl⟩
    refine JO.pur rfl rfl rfl (Pur.nilCheck rfl) ?_
    refine JO.pur rfl rfl rfl (Pur.fieldAddr rfl) ?_
    refine JO.effN rfl rfl (Eff.storeArrT (n := 16) (k := 0) rfl rfl rfl (by first | (rw [hv8]; rfl) | (rw [List.length_set, hv8]; rfl) | (rw [List.length_set, List.length_set, hv8]; rfl)) .head) ?_
    rintro _ _ ⟨rfl, rfl⟩
    refine JO.nil ?_
    refine J.region rfl ?_
    refine JO.pur rfl rfl rfl (Pur.move rfl) ?_
    refine JO.pur rfl rfl rfl (Pur.move rfl) ?_
    refine JO.pur rfl rfl rfl (Pur.nilCheck rfl) ?_
    refine JO.pur rfl rfl rfl (Pur.fieldAddr rfl) ?_
    refine JO.pur rfl rfl rfl (Pur.load rfl (CellIn.arrT (n := 16) (k := 1) (by first | (rw [hv8]; rfl) | (rw [List.length_set, hv8]; rfl) | (rw [List.length_set, List.length_set, hv8]; rfl)) rfl)) ?_
    refine JO.eff rfl rfl rfl (Eff.buildSlice intE [1] rfl rfl rfl rfl rfl rfl rfl) ?_
    rintro _ _ ⟨b49, rfl, -, rfl⟩
    refine JO.eff rfl rfl rfl (Eff.append rfl rfl rfl rfl (by first | rfl | omega | (simp; done) | (simp; omega)) (by first | rfl | omega | (simp; done) | (simp; omega)) (by decide) (by first | omega | (simp only [List.length_cons, List.length_nil]; omega) | (simp; omega)) (by first | omega | (simp only [List.length_cons, List.length_nil]; omega) | (simp; omega)) (fun h => by cases h)) ?_
    rintro _ _ ⟨a50, c50, rfl, rfl⟩
    refine JO.pur rfl rfl rfl (Pur.nilCheck rfl) ?_
    refine JO.pur rfl rfl rfl (Pur.fieldAddr rfl) ?_
    refine JO.effN rfl rfl (Eff.storeArrT (n := 16) (k := 1) rfl rfl rfl (by first | (rw [hv8]; rfl) | (rw [List.length_set, hv8]; rfl) | (rw [List.length_set, List.length_set, hv8]; rfl)) (.tail .head)) ?_
    rintro _ _ ⟨rfl, rfl⟩
    refine JO.nil ?_
    refine J.inBlock ?_
    refine J.seq rfl ?_
    refine J.region rfl ?_
    refine JO.pur rfl rfl rfl (Pur.assign rfl) ?_
    refine JO.nil ?_
    refine J.ret rfl rfl ?_
    have hdo : doW σ ⟨sRaw, v, w⟩ = ⟨σ.vars.set (vi v) ⟨mannerOf sRaw, σ.alive.length⟩, σ.alive ++ [true], σ.count ++ [1], σ.freed, σ.kind ++ [mannerOf sRaw]⟩ := by rw [doW_yes hr]; unfold doS; simp only [makesB, fromB, n_sRaw_sNew, n_sRaw_sShare, n_sRaw_sUse, n_sRaw_sFree, n_sRaw_sDrop, n_sRaw_sMove, n_sRaw_sCopy, n_sRaw_sBorrow, n_sRaw_sEither, n_sRaw_sOr, n_sRaw_sEnd, decide_true, decide_false, Bool.or_true, Bool.or_false, Bool.false_or, Bool.true_or, if_true, if_false, Bool.false_eq_true, ite_true, ite_false, reduceIte]
    refine ⟨_, _, ⟨a41, c41, a50, c50, af, cf, by rw [hr]; rfl, rfl⟩, rfl, fun h s => ?_⟩
    rw [hdo]
    try dsimp only
    rw [List.length_append, List.length_append]
    exact SubC.out h s

set_option maxRecDepth 10000 in
theorem do_sUse {L : List Asn} {b : Nat} {aa ac af : Option Addr} {ca cc cf : Nat} {σ : Sx} {v w : Str} (g : Ow.Good σ) (hv : isVarB v = true) :
    CallS Try.prog 49 [.pointer (some ⟨b, 0, none⟩), .agg #[.string sUse, .string v, .string w]].toArray (blk b (arr vrE σ.vars [.slice aa σ.alive.length ca, .slice ac σ.count.length cc, .slice af (fz σ.freed).length cf] 66) :: sl boolE aa ca σ.alive :: sl intE ac cc σ.count :: sl intE af cf (fz σ.freed) :: L) (fun x M => ∃ aa' ca' ac' cc' af' cf', x = .string (wrongS σ ⟨sUse, v, w⟩) ∧ M = blk b (arr vrE (doW σ ⟨sUse, v, w⟩).vars [.slice aa' (doW σ ⟨sUse, v, w⟩).alive.length ca', .slice ac' (doW σ ⟨sUse, v, w⟩).count.length cc', .slice af' (fz (doW σ ⟨sUse, v, w⟩).freed).length cf'] 66) :: sl boolE aa' ca' (doW σ ⟨sUse, v, w⟩).alive :: sl intE ac' cc' (doW σ ⟨sUse, v, w⟩).count :: sl intE af' cf' (fz (doW σ ⟨sUse, v, w⟩).freed) :: L) := by
  have hv8 := g.v8
  have hn21 := g.n21
  have hfl := freed_le g
  have hlv : vi v < σ.vars.length := by have := vi_lt hv; omega
  refine CallS.ent ?_
  refine CallS.enter Try.func49 rfl rfl rfl rfl rfl ?_
  refine J.seq rfl ?_
  refine J.region rfl ?_
  refine JO.eff rfl rfl rfl (Eff.box (cs := [_, _, _]) rfl rfl) ?_
  rintro _ _ ⟨b3, rfl, rfl⟩
  refine JO.pur rfl rfl rfl (Pur.assign rfl) ?_
  refine JO.nil ?_
  refine J.seq rfl ?_
  refine J.seq rfl ?_
  refine J.region rfl ?_
  refine JO.pur rfl rfl rfl (Pur.move rfl) ?_
  refine JO.pur rfl rfl rfl (Pur.loadA rfl rfl rfl CellsIn.blk) ?_
  refine JO.eff rfl rfl rfl (Eff.call rfl (CallS.pre (wrong_sUse (aa := aa) (ca := ca) (ac := ac) (cc := cc) (af := af) (cf := cf) (σ := σ) (v := v) (w := w) (L := blk b3 (.cells #[.string sUse, .string v, .string w] 46) :: L) g hv) SubC.out)) ?_
  rintro _ _ ⟨rfl, rfl⟩
  refine JO.pur rfl rfl rfl (Pur.assign rfl) ?_
  refine JO.nil ?_
  refine J.seq rfl ?_
  refine J.region rfl ?_
  refine JO.pur rfl rfl rfl (Pur.move rfl) ?_
  refine JO.pur rfl rfl rfl (Pur.neqT rfl rfl) ?_
  refine JO.nil ?_
  refine J.splitB 12 rfl (fun h12 => ?_) (fun h12 => ?_)
  · try simp only [decide_eq_true_eq, decide_eq_false_iff_not, Bool.not_eq_true', Bool.not_eq_false', Bool.and_eq_true, Bool.or_eq_true, Bool.and_eq_false_iff, Bool.or_eq_false_iff, Option.isNone_some, Option.isSome_some, Option.isNone_none, Option.isSome_none, Int.not_lt, Int.not_le, beq_iff_eq, beq_eq_false_iff_ne, bne_iff_ne, ne_eq, Bool.not_not, Decidable.not_not] at h12
    have hr : ¬ wrongS σ ⟨sUse, v, w⟩ = sNone := h12
    refine J.condT rfl rfl ?_
    refine J.seq rfl ?_
    refine J.region rfl ?_
    refine JO.pur rfl rfl rfl (Pur.move rfl) ?_
    refine JO.pur rfl rfl rfl (Pur.assign rfl) ?_
    refine JO.nil ?_
    refine J.ret rfl rfl ?_
    refine ⟨_, _, ⟨aa, ca, ac, cc, af, cf, rfl, rfl⟩, rfl, fun h s => ?_⟩
    rw [doW_no hr]
    exact SubC.out h s
  · try simp only [decide_eq_true_eq, decide_eq_false_iff_not, Bool.not_eq_true', Bool.not_eq_false', Bool.and_eq_true, Bool.or_eq_true, Bool.and_eq_false_iff, Bool.or_eq_false_iff, Option.isNone_some, Option.isSome_some, Option.isNone_none, Option.isSome_none, Int.not_lt, Int.not_le, beq_iff_eq, beq_eq_false_iff_ne, bne_iff_ne, ne_eq, Bool.not_not, Decidable.not_not] at h12
    have hr : wrongS σ ⟨sUse, v, w⟩ = sNone := h12
    have hR := wrong_none hr
    refine J.condF rfl rfl ?_
    refine J.skip rfl ?_
    refine J.seq rfl ?_
    refine J.region rfl ?_
    refine JO.pur rfl rfl rfl (Pur.move rfl) ?_
    refine JO.pur rfl rfl rfl (Pur.fieldAddr rfl) ?_
    refine JO.pur rfl rfl rfl (Pur.load rfl (CellIn.blk rfl)) ?_
    refine JO.effR rfl rfl rfl (Eff.call rfl (at_ok v hv)) ?_
    refine JO.pur rfl rfl rfl (Pur.assign rfl) ?_
    refine JO.nil ?_
    refine J.seq rfl ?_
    refine J.seq rfl ?_
    refine J.region rfl ?_
    refine JO.pur rfl rfl rfl (Pur.fieldAddr rfl) ?_
    refine JO.pur rfl rfl rfl (Pur.load rfl (CellIn.blk rfl)) ?_
    refine JO.nil ?_
    refine J.block rfl ?_
    refine J.seq rfl ?_
    refine J.seq rfl ?_
    refine J.region rfl ?_
    refine JO.pur rfl rfl rfl (Pur.eqlT rfl rfl) ?_
    refine JO.setv (u' := .bool false) 21 rfl (congrArg Value.bool (by decide)) ?_
    refine JO.pur rfl rfl rfl (Pur.assign rfl) ?_
    refine JO.nil ?_
    refine J.condF rfl rfl ?_
    refine J.seq rfl ?_
    refine J.region rfl ?_
    refine JO.pur rfl rfl rfl (Pur.eqlT rfl rfl) ?_
    refine JO.setv (u' := .bool false) 22 rfl (congrArg Value.bool (by decide)) ?_
    refine JO.pur rfl rfl rfl (Pur.assign rfl) ?_
    refine JO.nil ?_
    refine J.condF rfl rfl ?_
    refine J.region rfl ?_
    refine JO.pur rfl rfl rfl (Pur.eqlT rfl rfl) ?_
    refine JO.setv (u' := .bool false) 23 rfl (congrArg Value.bool (by decide)) ?_
    refine JO.pur rfl rfl rfl (Pur.assign rfl) ?_
    refine JO.nil ?_
    refine J.condF rfl rfl ?_
    refine J.seq rfl ?_
    refine J.region rfl ?_
    refine JO.pur rfl rfl rfl (Pur.eqlT rfl rfl) ?_
    refine JO.setv (u' := .bool false) 54 rfl (congrArg Value.bool (by decide)) ?_
    refine JO.pur rfl rfl rfl (Pur.assign rfl) ?_
    refine JO.nil ?_
    refine J.condF rfl rfl ?_
    refine J.seq rfl ?_
    refine J.region rfl ?_
    refine JO.pur rfl rfl rfl (Pur.eqlT rfl rfl) ?_
    refine JO.setv (u' := .bool false) 68 rfl (congrArg Value.bool (by decide)) ?_
    refine JO.pur rfl rfl rfl (Pur.assign rfl) ?_
    refine JO.nil ?_
    refine J.condF rfl rfl ?_
    refine J.seq rfl ?_
    refine J.region rfl ?_
    refine JO.pur rfl rfl rfl (Pur.eqlT rfl rfl) ?_
    refine JO.setv (u' := .bool false) 95 rfl (congrArg Value.bool (by decide)) ?_
    refine JO.pur rfl rfl rfl (Pur.assign rfl) ?_
    refine JO.nil ?_
    refine J.condF rfl rfl ?_
    refine J.seq rfl ?_
    refine J.region rfl ?_
    refine JO.pur rfl rfl rfl (Pur.eqlT rfl rfl) ?_
    refine JO.setv (u' := .bool false) 107 rfl (congrArg Value.bool (by decide)) ?_
    refine JO.pur rfl rfl rfl (Pur.assign rfl) ?_
    refine JO.nil ?_
    refine J.condF rfl rfl ?_
    refine J.seq rfl ?_
    refine J.region rfl ?_
    refine JO.pur rfl rfl rfl (Pur.eqlT rfl rfl) ?_
    refine JO.setv (u' := .bool false) 118 rfl (congrArg Value.bool (by decide)) ?_
    refine JO.pur rfl rfl rfl (Pur.assign rfl) ?_
    refine JO.nil ?_
    refine J.condF rfl rfl ?_
    refine J.skip rfl ?_
    refine J.inBlock ?_
    refine J.seq rfl ?_
    refine J.region rfl ?_
    refine JO.pur rfl rfl rfl (Pur.assign rfl) ?_
    refine JO.nil ?_
    refine J.ret rfl rfl ?_
    have hdo : doW σ ⟨sUse, v, w⟩ = σ := by rw [doW_yes hr]; unfold doS; simp only [makesB, fromB, n_sUse_sNew, n_sUse_sShare, n_sUse_sRaw, n_sUse_sFree, n_sUse_sDrop, n_sUse_sMove, n_sUse_sCopy, n_sUse_sBorrow, n_sUse_sEither, n_sUse_sOr, n_sUse_sEnd, decide_true, decide_false, Bool.or_true, Bool.or_false, Bool.false_or, Bool.true_or, if_true, if_false, Bool.false_eq_true, ite_true, ite_false, reduceIte]
    refine ⟨_, _, ⟨aa, ca, ac, cc, af, cf, by rw [hr]; rfl, rfl⟩, rfl, fun h s => ?_⟩
    rw [hdo]
    try dsimp only
    exact SubC.out h s

set_option maxRecDepth 10000 in
theorem do_sFree {L : List Asn} {b : Nat} {aa ac af : Option Addr} {ca cc cf : Nat} {σ : Sx} {v w : Str} (g : Ow.Good σ) (hv : isVarB v = true) :
    CallS Try.prog 49 [.pointer (some ⟨b, 0, none⟩), .agg #[.string sFree, .string v, .string w]].toArray (blk b (arr vrE σ.vars [.slice aa σ.alive.length ca, .slice ac σ.count.length cc, .slice af (fz σ.freed).length cf] 66) :: sl boolE aa ca σ.alive :: sl intE ac cc σ.count :: sl intE af cf (fz σ.freed) :: L) (fun x M => ∃ aa' ca' ac' cc' af' cf', x = .string (wrongS σ ⟨sFree, v, w⟩) ∧ M = blk b (arr vrE (doW σ ⟨sFree, v, w⟩).vars [.slice aa' (doW σ ⟨sFree, v, w⟩).alive.length ca', .slice ac' (doW σ ⟨sFree, v, w⟩).count.length cc', .slice af' (fz (doW σ ⟨sFree, v, w⟩).freed).length cf'] 66) :: sl boolE aa' ca' (doW σ ⟨sFree, v, w⟩).alive :: sl intE ac' cc' (doW σ ⟨sFree, v, w⟩).count :: sl intE af' cf' (fz (doW σ ⟨sFree, v, w⟩).freed) :: L) := by
  have hv8 := g.v8
  have hn21 := g.n21
  have hfl := freed_le g
  have hlv : vi v < σ.vars.length := by have := vi_lt hv; omega
  refine CallS.ent ?_
  refine CallS.enter Try.func49 rfl rfl rfl rfl rfl ?_
  refine J.seq rfl ?_
  refine J.region rfl ?_
  refine JO.eff rfl rfl rfl (Eff.box (cs := [_, _, _]) rfl rfl) ?_
  rintro _ _ ⟨b3, rfl, rfl⟩
  refine JO.pur rfl rfl rfl (Pur.assign rfl) ?_
  refine JO.nil ?_
  refine J.seq rfl ?_
  refine J.seq rfl ?_
  refine J.region rfl ?_
  refine JO.pur rfl rfl rfl (Pur.move rfl) ?_
  refine JO.pur rfl rfl rfl (Pur.loadA rfl rfl rfl CellsIn.blk) ?_
  refine JO.eff rfl rfl rfl (Eff.call rfl (CallS.pre (wrong_sFree (aa := aa) (ca := ca) (ac := ac) (cc := cc) (af := af) (cf := cf) (σ := σ) (v := v) (w := w) (L := blk b3 (.cells #[.string sFree, .string v, .string w] 46) :: L) g hv) SubC.out)) ?_
  rintro _ _ ⟨rfl, rfl⟩
  refine JO.pur rfl rfl rfl (Pur.assign rfl) ?_
  refine JO.nil ?_
  refine J.seq rfl ?_
  refine J.region rfl ?_
  refine JO.pur rfl rfl rfl (Pur.move rfl) ?_
  refine JO.pur rfl rfl rfl (Pur.neqT rfl rfl) ?_
  refine JO.nil ?_
  refine J.splitB 12 rfl (fun h12 => ?_) (fun h12 => ?_)
  · try simp only [decide_eq_true_eq, decide_eq_false_iff_not, Bool.not_eq_true', Bool.not_eq_false', Bool.and_eq_true, Bool.or_eq_true, Bool.and_eq_false_iff, Bool.or_eq_false_iff, Option.isNone_some, Option.isSome_some, Option.isNone_none, Option.isSome_none, Int.not_lt, Int.not_le, beq_iff_eq, beq_eq_false_iff_ne, bne_iff_ne, ne_eq, Bool.not_not, Decidable.not_not] at h12
    have hr : ¬ wrongS σ ⟨sFree, v, w⟩ = sNone := h12
    refine J.condT rfl rfl ?_
    refine J.seq rfl ?_
    refine J.region rfl ?_
    refine JO.pur rfl rfl rfl (Pur.move rfl) ?_
    refine JO.pur rfl rfl rfl (Pur.assign rfl) ?_
    refine JO.nil ?_
    refine J.ret rfl rfl ?_
    refine ⟨_, _, ⟨aa, ca, ac, cc, af, cf, rfl, rfl⟩, rfl, fun h s => ?_⟩
    rw [doW_no hr]
    exact SubC.out h s
  · try simp only [decide_eq_true_eq, decide_eq_false_iff_not, Bool.not_eq_true', Bool.not_eq_false', Bool.and_eq_true, Bool.or_eq_true, Bool.and_eq_false_iff, Bool.or_eq_false_iff, Option.isNone_some, Option.isSome_some, Option.isNone_none, Option.isSome_none, Int.not_lt, Int.not_le, beq_iff_eq, beq_eq_false_iff_ne, bne_iff_ne, ne_eq, Bool.not_not, Decidable.not_not] at h12
    have hr : wrongS σ ⟨sFree, v, w⟩ = sNone := h12
    have hR := wrong_none hr
    have hy0 : (vr σ (vi v)).m ≠ 0 := by have := hR.w3 (.inr (.inr rfl)); simpa [yv, fromB, n_sFree_sMove, n_sFree_sCopy, n_sFree_sBorrow] using this
    have hyo : (vr σ (vi v)).o < σ.alive.length := (g.obj _ hy0).2
    refine J.condF rfl rfl ?_
    refine J.skip rfl ?_
    refine J.seq rfl ?_
    refine J.region rfl ?_
    refine JO.pur rfl rfl rfl (Pur.move rfl) ?_
    refine JO.pur rfl rfl rfl (Pur.fieldAddr rfl) ?_
    refine JO.pur rfl rfl rfl (Pur.load rfl (CellIn.blk rfl)) ?_
    refine JO.effR rfl rfl rfl (Eff.call rfl (at_ok v hv)) ?_
    refine JO.pur rfl rfl rfl (Pur.assign rfl) ?_
    refine JO.nil ?_
    refine J.seq rfl ?_
    refine J.seq rfl ?_
    refine J.region rfl ?_
    refine JO.pur rfl rfl rfl (Pur.fieldAddr rfl) ?_
    refine JO.pur rfl rfl rfl (Pur.load rfl (CellIn.blk rfl)) ?_
    refine JO.nil ?_
    refine J.block rfl ?_
    refine J.seq rfl ?_
    refine J.seq rfl ?_
    refine J.region rfl ?_
    refine JO.pur rfl rfl rfl (Pur.eqlT rfl rfl) ?_
    refine JO.setv (u' := .bool false) 21 rfl (congrArg Value.bool (by decide)) ?_
    refine JO.pur rfl rfl rfl (Pur.assign rfl) ?_
    refine JO.nil ?_
    refine J.condF rfl rfl ?_
    refine J.seq rfl ?_
    refine J.region rfl ?_
    refine JO.pur rfl rfl rfl (Pur.eqlT rfl rfl) ?_
    refine JO.setv (u' := .bool false) 22 rfl (congrArg Value.bool (by decide)) ?_
    refine JO.pur rfl rfl rfl (Pur.assign rfl) ?_
    refine JO.nil ?_
    refine J.condF rfl rfl ?_
    refine J.region rfl ?_
    refine JO.pur rfl rfl rfl (Pur.eqlT rfl rfl) ?_
    refine JO.setv (u' := .bool false) 23 rfl (congrArg Value.bool (by decide)) ?_
    refine JO.pur rfl rfl rfl (Pur.assign rfl) ?_
    refine JO.nil ?_
    refine J.condF rfl rfl ?_
    refine J.seq rfl ?_
    refine J.region rfl ?_
    refine JO.pur rfl rfl rfl (Pur.eqlT rfl rfl) ?_
    refine JO.setv (u' := .bool false) 54 rfl (congrArg Value.bool (by decide)) ?_
    refine JO.pur rfl rfl rfl (Pur.assign rfl) ?_
    refine JO.nil ?_
    refine J.condF rfl rfl ?_
    refine J.seq rfl ?_
    refine J.region rfl ?_
    refine JO.pur rfl rfl rfl (Pur.eqlT rfl rfl) ?_
    refine JO.setv (u' := .bool false) 68 rfl (congrArg Value.bool (by decide)) ?_
    refine JO.pur rfl rfl rfl (Pur.assign rfl) ?_
    refine JO.nil ?_
    refine J.condF rfl rfl ?_
    refine J.seq rfl ?_
    refine J.region rfl ?_
    refine JO.pur rfl rfl rfl (Pur.eqlT rfl rfl) ?_
    refine JO.setv (u' := .bool false) 95 rfl (congrArg Value.bool (by decide)) ?_
    refine JO.pur rfl rfl rfl (Pur.assign rfl) ?_
    refine JO.nil ?_
    refine J.condF rfl rfl ?_
    refine J.seq rfl ?_
    refine J.region rfl ?_
    refine JO.pur rfl rfl rfl (Pur.eqlT rfl rfl) ?_
    refine JO.setv (u' := .bool true) 107 rfl (congrArg Value.bool (by decide)) ?_
    refine JO.pur rfl rfl rfl (Pur.assign rfl) ?_
    refine JO.nil ?_
    refine J.condT rfl rfl ?_
    refine J.seq rfl ?_
    refine J.region rfl ?_
    refine JO.pur rfl rfl rfl (Pur.move rfl) ?_
    refine JO.pur rfl rfl rfl (Pur.move rfl) ?_
    refine JO.pur rfl rfl rfl (Pur.nilCheck rfl) ?_
    refine JO.pur rfl rfl rfl (Pur.fieldAddr rfl) ?_
    refine JO.pur rfl rfl rfl (Pur.load rfl (CellIn.arr (E := vrE) rfl (vr_get hlv) rfl)) ?_
    refine JO.eff rfl rfl rfl (Eff.call rfl (CallS.pre (free_ok (aa := aa) (ca := ca) (ac := ac) (cc := cc) (af := af) (cf := cf) (vs := σ.vars) (al := σ.alive) (co := σ.count) (fr := σ.freed) (n := (vr σ (vi v)).o) (L := blk b3 (.cells #[.string sFree, .string v, .string w] 46) :: L) hv8 hyo (by omega) (by omega)) SubC.out)) ?_
    rintro _ _ ⟨aa1, ca1, ac1, cc1, af1, cf1, rfl, rfl⟩
    refine JO.nil ?_
    refine J.region rfl ?_
    refine JO.pur rfl rfl rfl (Pur.move rfl) ?_
    refine JO.pur rfl rfl rfl (Pur.build (cs := [_, _]) rfl rfl) ?_
    refine JO.pur rfl rfl rfl (Pur.nilCheck rfl) ?_
    refine JO.effN rfl rfl (Eff.storeArr (E := vrE) (z' := ⟨0, 0⟩) rfl rfl rfl rfl hlv rfl) ?_
    rintro _ _ ⟨rfl, rfl⟩
    refine JO.nil ?_
    refine J.inBlock ?_
    refine J.seq rfl ?_
    refine J.region rfl ?_
    refine JO.pur rfl rfl rfl (Pur.assign rfl) ?_
    refine JO.nil ?_
    refine J.ret rfl rfl ?_
    have hdo : doW σ ⟨sFree, v, w⟩ = putS (freeS σ (vr σ (vi v)).o) (vi v) ⟨0, 0⟩ := by rw [doW_yes hr]; unfold doS; simp only [makesB, fromB, n_sFree_sNew, n_sFree_sShare, n_sFree_sRaw, n_sFree_sUse, n_sFree_sDrop, n_sFree_sMove, n_sFree_sCopy, n_sFree_sBorrow, n_sFree_sEither, n_sFree_sOr, n_sFree_sEnd, decide_true, decide_false, Bool.or_true, Bool.or_false, Bool.false_or, Bool.true_or, if_true, if_false, Bool.false_eq_true, ite_true, ite_false, reduceIte]
    refine ⟨_, _, ⟨aa1, ca1, ac1, cc1, af1, cf1, by rw [hr]; rfl, rfl⟩, rfl, fun h s => ?_⟩
    rw [hdo]
    try dsimp only
    unfold putS freeS; try dsimp only
    exact SubC.out h s

set_option maxRecDepth 10000 in
theorem do_sDrop {L : List Asn} {b : Nat} {aa ac af : Option Addr} {ca cc cf : Nat} {σ : Sx} {v w : Str} (g : Ow.Good σ) (hv : isVarB v = true) :
    CallS Try.prog 49 [.pointer (some ⟨b, 0, none⟩), .agg #[.string sDrop, .string v, .string w]].toArray (blk b (arr vrE σ.vars [.slice aa σ.alive.length ca, .slice ac σ.count.length cc, .slice af (fz σ.freed).length cf] 66) :: sl boolE aa ca σ.alive :: sl intE ac cc σ.count :: sl intE af cf (fz σ.freed) :: L) (fun x M => ∃ aa' ca' ac' cc' af' cf', x = .string (wrongS σ ⟨sDrop, v, w⟩) ∧ M = blk b (arr vrE (doW σ ⟨sDrop, v, w⟩).vars [.slice aa' (doW σ ⟨sDrop, v, w⟩).alive.length ca', .slice ac' (doW σ ⟨sDrop, v, w⟩).count.length cc', .slice af' (fz (doW σ ⟨sDrop, v, w⟩).freed).length cf'] 66) :: sl boolE aa' ca' (doW σ ⟨sDrop, v, w⟩).alive :: sl intE ac' cc' (doW σ ⟨sDrop, v, w⟩).count :: sl intE af' cf' (fz (doW σ ⟨sDrop, v, w⟩).freed) :: L) := by
  have hv8 := g.v8
  have hn21 := g.n21
  have hfl := freed_le g
  have hlv : vi v < σ.vars.length := by have := vi_lt hv; omega
  refine CallS.ent ?_
  refine CallS.enter Try.func49 rfl rfl rfl rfl rfl ?_
  refine J.seq rfl ?_
  refine J.region rfl ?_
  refine JO.eff rfl rfl rfl (Eff.box (cs := [_, _, _]) rfl rfl) ?_
  rintro _ _ ⟨b3, rfl, rfl⟩
  refine JO.pur rfl rfl rfl (Pur.assign rfl) ?_
  refine JO.nil ?_
  refine J.seq rfl ?_
  refine J.seq rfl ?_
  refine J.region rfl ?_
  refine JO.pur rfl rfl rfl (Pur.move rfl) ?_
  refine JO.pur rfl rfl rfl (Pur.loadA rfl rfl rfl CellsIn.blk) ?_
  refine JO.eff rfl rfl rfl (Eff.call rfl (CallS.pre (wrong_sDrop (aa := aa) (ca := ca) (ac := ac) (cc := cc) (af := af) (cf := cf) (σ := σ) (v := v) (w := w) (L := blk b3 (.cells #[.string sDrop, .string v, .string w] 46) :: L) g hv) SubC.out)) ?_
  rintro _ _ ⟨rfl, rfl⟩
  refine JO.pur rfl rfl rfl (Pur.assign rfl) ?_
  refine JO.nil ?_
  refine J.seq rfl ?_
  refine J.region rfl ?_
  refine JO.pur rfl rfl rfl (Pur.move rfl) ?_
  refine JO.pur rfl rfl rfl (Pur.neqT rfl rfl) ?_
  refine JO.nil ?_
  refine J.splitB 12 rfl (fun h12 => ?_) (fun h12 => ?_)
  · try simp only [decide_eq_true_eq, decide_eq_false_iff_not, Bool.not_eq_true', Bool.not_eq_false', Bool.and_eq_true, Bool.or_eq_true, Bool.and_eq_false_iff, Bool.or_eq_false_iff, Option.isNone_some, Option.isSome_some, Option.isNone_none, Option.isSome_none, Int.not_lt, Int.not_le, beq_iff_eq, beq_eq_false_iff_ne, bne_iff_ne, ne_eq, Bool.not_not, Decidable.not_not] at h12
    have hr : ¬ wrongS σ ⟨sDrop, v, w⟩ = sNone := h12
    refine J.condT rfl rfl ?_
    refine J.seq rfl ?_
    refine J.region rfl ?_
    refine JO.pur rfl rfl rfl (Pur.move rfl) ?_
    refine JO.pur rfl rfl rfl (Pur.assign rfl) ?_
    refine JO.nil ?_
    refine J.ret rfl rfl ?_
    refine ⟨_, _, ⟨aa, ca, ac, cc, af, cf, rfl, rfl⟩, rfl, fun h s => ?_⟩
    rw [doW_no hr]
    exact SubC.out h s
  · try simp only [decide_eq_true_eq, decide_eq_false_iff_not, Bool.not_eq_true', Bool.not_eq_false', Bool.and_eq_true, Bool.or_eq_true, Bool.and_eq_false_iff, Bool.or_eq_false_iff, Option.isNone_some, Option.isSome_some, Option.isNone_none, Option.isSome_none, Int.not_lt, Int.not_le, beq_iff_eq, beq_eq_false_iff_ne, bne_iff_ne, ne_eq, Bool.not_not, Decidable.not_not] at h12
    have hr : wrongS σ ⟨sDrop, v, w⟩ = sNone := h12
    have hR := wrong_none hr
    refine J.condF rfl rfl ?_
    refine J.skip rfl ?_
    refine J.seq rfl ?_
    refine J.region rfl ?_
    refine JO.pur rfl rfl rfl (Pur.move rfl) ?_
    refine JO.pur rfl rfl rfl (Pur.fieldAddr rfl) ?_
    refine JO.pur rfl rfl rfl (Pur.load rfl (CellIn.blk rfl)) ?_
    refine JO.effR rfl rfl rfl (Eff.call rfl (at_ok v hv)) ?_
    refine JO.pur rfl rfl rfl (Pur.assign rfl) ?_
    refine JO.nil ?_
    refine J.seq rfl ?_
    refine J.seq rfl ?_
    refine J.region rfl ?_
    refine JO.pur rfl rfl rfl (Pur.fieldAddr rfl) ?_
    refine JO.pur rfl rfl rfl (Pur.load rfl (CellIn.blk rfl)) ?_
    refine JO.nil ?_
    refine J.block rfl ?_
    refine J.seq rfl ?_
    refine J.seq rfl ?_
    refine J.region rfl ?_
    refine JO.pur rfl rfl rfl (Pur.eqlT rfl rfl) ?_
    refine JO.setv (u' := .bool false) 21 rfl (congrArg Value.bool (by decide)) ?_
    refine JO.pur rfl rfl rfl (Pur.assign rfl) ?_
    refine JO.nil ?_
    refine J.condF rfl rfl ?_
    refine J.seq rfl ?_
    refine J.region rfl ?_
    refine JO.pur rfl rfl rfl (Pur.eqlT rfl rfl) ?_
    refine JO.setv (u' := .bool false) 22 rfl (congrArg Value.bool (by decide)) ?_
    refine JO.pur rfl rfl rfl (Pur.assign rfl) ?_
    refine JO.nil ?_
    refine J.condF rfl rfl ?_
    refine J.region rfl ?_
    refine JO.pur rfl rfl rfl (Pur.eqlT rfl rfl) ?_
    refine JO.setv (u' := .bool false) 23 rfl (congrArg Value.bool (by decide)) ?_
    refine JO.pur rfl rfl rfl (Pur.assign rfl) ?_
    refine JO.nil ?_
    refine J.condF rfl rfl ?_
    refine J.seq rfl ?_
    refine J.region rfl ?_
    refine JO.pur rfl rfl rfl (Pur.eqlT rfl rfl) ?_
    refine JO.setv (u' := .bool false) 54 rfl (congrArg Value.bool (by decide)) ?_
    refine JO.pur rfl rfl rfl (Pur.assign rfl) ?_
    refine JO.nil ?_
    refine J.condF rfl rfl ?_
    refine J.seq rfl ?_
    refine J.region rfl ?_
    refine JO.pur rfl rfl rfl (Pur.eqlT rfl rfl) ?_
    refine JO.setv (u' := .bool false) 68 rfl (congrArg Value.bool (by decide)) ?_
    refine JO.pur rfl rfl rfl (Pur.assign rfl) ?_
    refine JO.nil ?_
    refine J.condF rfl rfl ?_
    refine J.seq rfl ?_
    refine J.region rfl ?_
    refine JO.pur rfl rfl rfl (Pur.eqlT rfl rfl) ?_
    refine JO.setv (u' := .bool false) 95 rfl (congrArg Value.bool (by decide)) ?_
    refine JO.pur rfl rfl rfl (Pur.assign rfl) ?_
    refine JO.nil ?_
    refine J.condF rfl rfl ?_
    refine J.seq rfl ?_
    refine J.region rfl ?_
    refine JO.pur rfl rfl rfl (Pur.eqlT rfl rfl) ?_
    refine JO.setv (u' := .bool false) 107 rfl (congrArg Value.bool (by decide)) ?_
    refine JO.pur rfl rfl rfl (Pur.assign rfl) ?_
    refine JO.nil ?_
    refine J.condF rfl rfl ?_
    refine J.seq rfl ?_
    refine J.region rfl ?_
    refine JO.pur rfl rfl rfl (Pur.eqlT rfl rfl) ?_
    refine JO.setv (u' := .bool true) 118 rfl (congrArg Value.bool (by decide)) ?_
    refine JO.pur rfl rfl rfl (Pur.assign rfl) ?_
    refine JO.nil ?_
    refine J.condT rfl rfl ?_
    refine J.region rfl ?_
    refine JO.pur rfl rfl rfl (Pur.move rfl) ?_
    refine JO.pur rfl rfl rfl (Pur.move rfl) ?_
    refine JO.eff rfl rfl rfl (Eff.call rfl (CallS.pre (drop_ok (aa := aa) (ca := ca) (ac := ac) (cc := cc) (af := af) (cf := cf) (σ := σ) (i := vi v) (L := blk b3 (.cells #[.string sDrop, .string v, .string w] 46) :: L) g (vi_lt hv)) SubC.out)) ?_
    rintro _ _ ⟨aa1, ca1, ac1, cc1, af1, cf1, rfl, rfl⟩
    refine JO.nil ?_
    refine J.inBlock ?_
    refine J.seq rfl ?_
    refine J.region rfl ?_
    refine JO.pur rfl rfl rfl (Pur.assign rfl) ?_
    refine JO.nil ?_
    refine J.ret rfl rfl ?_
    have hdo : doW σ ⟨sDrop, v, w⟩ = dropS σ (vi v) := by rw [doW_yes hr]; unfold doS; simp only [makesB, fromB, n_sDrop_sNew, n_sDrop_sShare, n_sDrop_sRaw, n_sDrop_sUse, n_sDrop_sFree, n_sDrop_sMove, n_sDrop_sCopy, n_sDrop_sBorrow, n_sDrop_sEither, n_sDrop_sOr, n_sDrop_sEnd, decide_true, decide_false, Bool.or_true, Bool.or_false, Bool.false_or, Bool.true_or, if_true, if_false, Bool.false_eq_true, ite_true, ite_false, reduceIte]
    refine ⟨_, _, ⟨aa1, ca1, ac1, cc1, af1, cf1, by rw [hr]; rfl, rfl⟩, rfl, fun h s => ?_⟩
    rw [hdo]
    try dsimp only
    exact SubC.out h s

set_option maxRecDepth 10000 in
theorem do_sMove {L : List Asn} {b : Nat} {aa ac af : Option Addr} {ca cc cf : Nat} {σ : Sx} {v w : Str} (g : Ow.Good σ) (hv : isVarB v = true) (hw : isVarB w = true) :
    CallS Try.prog 49 [.pointer (some ⟨b, 0, none⟩), .agg #[.string sMove, .string v, .string w]].toArray (blk b (arr vrE σ.vars [.slice aa σ.alive.length ca, .slice ac σ.count.length cc, .slice af (fz σ.freed).length cf] 66) :: sl boolE aa ca σ.alive :: sl intE ac cc σ.count :: sl intE af cf (fz σ.freed) :: L) (fun x M => ∃ aa' ca' ac' cc' af' cf', x = .string (wrongS σ ⟨sMove, v, w⟩) ∧ M = blk b (arr vrE (doW σ ⟨sMove, v, w⟩).vars [.slice aa' (doW σ ⟨sMove, v, w⟩).alive.length ca', .slice ac' (doW σ ⟨sMove, v, w⟩).count.length cc', .slice af' (fz (doW σ ⟨sMove, v, w⟩).freed).length cf'] 66) :: sl boolE aa' ca' (doW σ ⟨sMove, v, w⟩).alive :: sl intE ac' cc' (doW σ ⟨sMove, v, w⟩).count :: sl intE af' cf' (fz (doW σ ⟨sMove, v, w⟩).freed) :: L) := by
  have hv8 := g.v8
  have hn21 := g.n21
  have hfl := freed_le g
  have hlv : vi v < σ.vars.length := by have := vi_lt hv; omega
  have hlw : vi w < σ.vars.length := by have := vi_lt hw; omega
  refine CallS.ent ?_
  refine CallS.enter Try.func49 rfl rfl rfl rfl rfl ?_
  refine J.seq rfl ?_
  refine J.region rfl ?_
  refine JO.eff rfl rfl rfl (Eff.box (cs := [_, _, _]) rfl rfl) ?_
  rintro _ _ ⟨b3, rfl, rfl⟩
  refine JO.pur rfl rfl rfl (Pur.assign rfl) ?_
  refine JO.nil ?_
  refine J.seq rfl ?_
  refine J.seq rfl ?_
  refine J.region rfl ?_
  refine JO.pur rfl rfl rfl (Pur.move rfl) ?_
  refine JO.pur rfl rfl rfl (Pur.loadA rfl rfl rfl CellsIn.blk) ?_
  refine JO.eff rfl rfl rfl (Eff.call rfl (CallS.pre (wrong_sMove (aa := aa) (ca := ca) (ac := ac) (cc := cc) (af := af) (cf := cf) (σ := σ) (v := v) (w := w) (L := blk b3 (.cells #[.string sMove, .string v, .string w] 46) :: L) g hv hw) SubC.out)) ?_
  rintro _ _ ⟨rfl, rfl⟩
  refine JO.pur rfl rfl rfl (Pur.assign rfl) ?_
  refine JO.nil ?_
  refine J.seq rfl ?_
  refine J.region rfl ?_
  refine JO.pur rfl rfl rfl (Pur.move rfl) ?_
  refine JO.pur rfl rfl rfl (Pur.neqT rfl rfl) ?_
  refine JO.nil ?_
  refine J.splitB 12 rfl (fun h12 => ?_) (fun h12 => ?_)
  · try simp only [decide_eq_true_eq, decide_eq_false_iff_not, Bool.not_eq_true', Bool.not_eq_false', Bool.and_eq_true, Bool.or_eq_true, Bool.and_eq_false_iff, Bool.or_eq_false_iff, Option.isNone_some, Option.isSome_some, Option.isNone_none, Option.isSome_none, Int.not_lt, Int.not_le, beq_iff_eq, beq_eq_false_iff_ne, bne_iff_ne, ne_eq, Bool.not_not, Decidable.not_not] at h12
    have hr : ¬ wrongS σ ⟨sMove, v, w⟩ = sNone := h12
    refine J.condT rfl rfl ?_
    refine J.seq rfl ?_
    refine J.region rfl ?_
    refine JO.pur rfl rfl rfl (Pur.move rfl) ?_
    refine JO.pur rfl rfl rfl (Pur.assign rfl) ?_
    refine JO.nil ?_
    refine J.ret rfl rfl ?_
    refine ⟨_, _, ⟨aa, ca, ac, cc, af, cf, rfl, rfl⟩, rfl, fun h s => ?_⟩
    rw [doW_no hr]
    exact SubC.out h s
  · try simp only [decide_eq_true_eq, decide_eq_false_iff_not, Bool.not_eq_true', Bool.not_eq_false', Bool.and_eq_true, Bool.or_eq_true, Bool.and_eq_false_iff, Bool.or_eq_false_iff, Option.isNone_some, Option.isSome_some, Option.isNone_none, Option.isSome_none, Int.not_lt, Int.not_le, beq_iff_eq, beq_eq_false_iff_ne, bne_iff_ne, ne_eq, Bool.not_not, Decidable.not_not] at h12
    have hr : wrongS σ ⟨sMove, v, w⟩ = sNone := h12
    have hR := wrong_none hr
    refine J.condF rfl rfl ?_
    refine J.skip rfl ?_
    refine J.seq rfl ?_
    refine J.region rfl ?_
    refine JO.pur rfl rfl rfl (Pur.move rfl) ?_
    refine JO.pur rfl rfl rfl (Pur.fieldAddr rfl) ?_
    refine JO.pur rfl rfl rfl (Pur.load rfl (CellIn.blk rfl)) ?_
    refine JO.effR rfl rfl rfl (Eff.call rfl (at_ok v hv)) ?_
    refine JO.pur rfl rfl rfl (Pur.assign rfl) ?_
    refine JO.nil ?_
    refine J.seq rfl ?_
    refine J.seq rfl ?_
    refine J.region rfl ?_
    refine JO.pur rfl rfl rfl (Pur.fieldAddr rfl) ?_
    refine JO.pur rfl rfl rfl (Pur.load rfl (CellIn.blk rfl)) ?_
    refine JO.nil ?_
    refine J.block rfl ?_
    refine J.seq rfl ?_
    refine J.seq rfl ?_
    refine J.region rfl ?_
    refine JO.pur rfl rfl rfl (Pur.eqlT rfl rfl) ?_
    refine JO.setv (u' := .bool false) 21 rfl (congrArg Value.bool (by decide)) ?_
    refine JO.pur rfl rfl rfl (Pur.assign rfl) ?_
    refine JO.nil ?_
    refine J.condF rfl rfl ?_
    refine J.seq rfl ?_
    refine J.region rfl ?_
    refine JO.pur rfl rfl rfl (Pur.eqlT rfl rfl) ?_
    refine JO.setv (u' := .bool false) 22 rfl (congrArg Value.bool (by decide)) ?_
    refine JO.pur rfl rfl rfl (Pur.assign rfl) ?_
    refine JO.nil ?_
    refine J.condF rfl rfl ?_
    refine J.region rfl ?_
    refine JO.pur rfl rfl rfl (Pur.eqlT rfl rfl) ?_
    refine JO.setv (u' := .bool false) 23 rfl (congrArg Value.bool (by decide)) ?_
    refine JO.pur rfl rfl rfl (Pur.assign rfl) ?_
    refine JO.nil ?_
    refine J.condF rfl rfl ?_
    refine J.seq rfl ?_
    refine J.region rfl ?_
    refine JO.pur rfl rfl rfl (Pur.eqlT rfl rfl) ?_
    refine JO.setv (u' := .bool true) 54 rfl (congrArg Value.bool (by decide)) ?_
    refine JO.pur rfl rfl rfl (Pur.assign rfl) ?_
    refine JO.nil ?_
    refine J.condT rfl rfl ?_
    refine J.seq rfl ?_
    refine J.region rfl ?_
    refine JO.pur rfl rfl rfl (Pur.move rfl) ?_
    refine JO.pur rfl rfl rfl (Pur.fieldAddr rfl) ?_
    refine JO.pur rfl rfl rfl (Pur.load rfl (CellIn.blk rfl)) ?_
    refine JO.effR rfl rfl rfl (Eff.call rfl (at_ok w hw)) ?_
    refine JO.pur rfl rfl rfl (Pur.assign rfl) ?_
    refine JO.nil ?_
    refine J.region rfl ?_
    refine JO.pur rfl rfl rfl (Pur.move rfl) ?_
    refine JO.pur rfl rfl rfl (Pur.move rfl) ?_
    refine JO.pur rfl rfl rfl (Pur.move rfl) ?_
    refine JO.pur rfl rfl rfl (Pur.nilCheck rfl) ?_
    refine JO.pur rfl rfl rfl (Pur.loadA rfl rfl rfl (CellsIn.arr (E := vrE) rfl (vr_get hlw))) ?_
    refine JO.pur rfl rfl rfl (Pur.build (cs := [_, _]) rfl rfl) ?_
    refine JO.pur rfl rfl rfl (Pur.nilCheck rfl) ?_
    refine JO.effN rfl rfl (Eff.storeArr (E := vrE) (z' := vr σ (vi w)) rfl rfl rfl rfl hlv rfl) ?_
    rintro _ _ ⟨rfl, rfl⟩
    refine JO.pur rfl rfl rfl (Pur.nilCheck rfl) ?_
    refine JO.effN rfl rfl (Eff.storeArr (E := vrE) (z' := ⟨0, 0⟩) rfl rfl rfl rfl (by rw [List.length_set]; exact hlw) rfl) ?_
    rintro _ _ ⟨rfl, rfl⟩
    refine JO.nil ?_
    refine J.inBlock ?_
    refine J.seq rfl ?_
    refine J.region rfl ?_
    refine JO.pur rfl rfl rfl (Pur.assign rfl) ?_
    refine JO.nil ?_
    refine J.ret rfl rfl ?_
    have hdo : doW σ ⟨sMove, v, w⟩ = putS (putS σ (vi v) (vr σ (vi w))) (vi w) ⟨0, 0⟩ := by rw [doW_yes hr]; unfold doS; simp only [makesB, fromB, n_sMove_sNew, n_sMove_sShare, n_sMove_sRaw, n_sMove_sUse, n_sMove_sFree, n_sMove_sDrop, n_sMove_sCopy, n_sMove_sBorrow, n_sMove_sEither, n_sMove_sOr, n_sMove_sEnd, decide_true, decide_false, Bool.or_true, Bool.or_false, Bool.false_or, Bool.true_or, if_true, if_false, Bool.false_eq_true, ite_true, ite_false, reduceIte]
    refine ⟨_, _, ⟨aa, ca, ac, cc, af, cf, by rw [hr]; rfl, rfl⟩, rfl, fun h s => ?_⟩
    rw [hdo]
    unfold putS; try dsimp only
    exact SubC.out h s

set_option maxRecDepth 10000 in
theorem do_sCopy {L : List Asn} {b : Nat} {aa ac af : Option Addr} {ca cc cf : Nat} {σ : Sx} {v w : Str} (g : Ow.Good σ) (hv : isVarB v = true) (hw : isVarB w = true) :
    CallS Try.prog 49 [.pointer (some ⟨b, 0, none⟩), .agg #[.string sCopy, .string v, .string w]].toArray (blk b (arr vrE σ.vars [.slice aa σ.alive.length ca, .slice ac σ.count.length cc, .slice af (fz σ.freed).length cf] 66) :: sl boolE aa ca σ.alive :: sl intE ac cc σ.count :: sl intE af cf (fz σ.freed) :: L) (fun x M => ∃ aa' ca' ac' cc' af' cf', x = .string (wrongS σ ⟨sCopy, v, w⟩) ∧ M = blk b (arr vrE (doW σ ⟨sCopy, v, w⟩).vars [.slice aa' (doW σ ⟨sCopy, v, w⟩).alive.length ca', .slice ac' (doW σ ⟨sCopy, v, w⟩).count.length cc', .slice af' (fz (doW σ ⟨sCopy, v, w⟩).freed).length cf'] 66) :: sl boolE aa' ca' (doW σ ⟨sCopy, v, w⟩).alive :: sl intE ac' cc' (doW σ ⟨sCopy, v, w⟩).count :: sl intE af' cf' (fz (doW σ ⟨sCopy, v, w⟩).freed) :: L) := by
  have hv8 := g.v8
  have hn21 := g.n21
  have hfl := freed_le g
  have hlv : vi v < σ.vars.length := by have := vi_lt hv; omega
  have hlw : vi w < σ.vars.length := by have := vi_lt hw; omega
  refine CallS.ent ?_
  refine CallS.enter Try.func49 rfl rfl rfl rfl rfl ?_
  refine J.seq rfl ?_
  refine J.region rfl ?_
  refine JO.eff rfl rfl rfl (Eff.box (cs := [_, _, _]) rfl rfl) ?_
  rintro _ _ ⟨b3, rfl, rfl⟩
  refine JO.pur rfl rfl rfl (Pur.assign rfl) ?_
  refine JO.nil ?_
  refine J.seq rfl ?_
  refine J.seq rfl ?_
  refine J.region rfl ?_
  refine JO.pur rfl rfl rfl (Pur.move rfl) ?_
  refine JO.pur rfl rfl rfl (Pur.loadA rfl rfl rfl CellsIn.blk) ?_
  refine JO.eff rfl rfl rfl (Eff.call rfl (CallS.pre (wrong_sCopy (aa := aa) (ca := ca) (ac := ac) (cc := cc) (af := af) (cf := cf) (σ := σ) (v := v) (w := w) (L := blk b3 (.cells #[.string sCopy, .string v, .string w] 46) :: L) g hv hw) SubC.out)) ?_
  rintro _ _ ⟨rfl, rfl⟩
  refine JO.pur rfl rfl rfl (Pur.assign rfl) ?_
  refine JO.nil ?_
  refine J.seq rfl ?_
  refine J.region rfl ?_
  refine JO.pur rfl rfl rfl (Pur.move rfl) ?_
  refine JO.pur rfl rfl rfl (Pur.neqT rfl rfl) ?_
  refine JO.nil ?_
  refine J.splitB 12 rfl (fun h12 => ?_) (fun h12 => ?_)
  · try simp only [decide_eq_true_eq, decide_eq_false_iff_not, Bool.not_eq_true', Bool.not_eq_false', Bool.and_eq_true, Bool.or_eq_true, Bool.and_eq_false_iff, Bool.or_eq_false_iff, Option.isNone_some, Option.isSome_some, Option.isNone_none, Option.isSome_none, Int.not_lt, Int.not_le, beq_iff_eq, beq_eq_false_iff_ne, bne_iff_ne, ne_eq, Bool.not_not, Decidable.not_not] at h12
    have hr : ¬ wrongS σ ⟨sCopy, v, w⟩ = sNone := h12
    refine J.condT rfl rfl ?_
    refine J.seq rfl ?_
    refine J.region rfl ?_
    refine JO.pur rfl rfl rfl (Pur.move rfl) ?_
    refine JO.pur rfl rfl rfl (Pur.assign rfl) ?_
    refine JO.nil ?_
    refine J.ret rfl rfl ?_
    refine ⟨_, _, ⟨aa, ca, ac, cc, af, cf, rfl, rfl⟩, rfl, fun h s => ?_⟩
    rw [doW_no hr]
    exact SubC.out h s
  · try simp only [decide_eq_true_eq, decide_eq_false_iff_not, Bool.not_eq_true', Bool.not_eq_false', Bool.and_eq_true, Bool.or_eq_true, Bool.and_eq_false_iff, Bool.or_eq_false_iff, Option.isNone_some, Option.isSome_some, Option.isNone_none, Option.isSome_none, Int.not_lt, Int.not_le, beq_iff_eq, beq_eq_false_iff_ne, bne_iff_ne, ne_eq, Bool.not_not, Decidable.not_not] at h12
    have hr : wrongS σ ⟨sCopy, v, w⟩ = sNone := h12
    have hR := wrong_none hr
    refine J.condF rfl rfl ?_
    refine J.skip rfl ?_
    refine J.seq rfl ?_
    refine J.region rfl ?_
    refine JO.pur rfl rfl rfl (Pur.move rfl) ?_
    refine JO.pur rfl rfl rfl (Pur.fieldAddr rfl) ?_
    refine JO.pur rfl rfl rfl (Pur.load rfl (CellIn.blk rfl)) ?_
    refine JO.effR rfl rfl rfl (Eff.call rfl (at_ok v hv)) ?_
    refine JO.pur rfl rfl rfl (Pur.assign rfl) ?_
    refine JO.nil ?_
    refine J.seq rfl ?_
    refine J.seq rfl ?_
    refine J.region rfl ?_
    refine JO.pur rfl rfl rfl (Pur.fieldAddr rfl) ?_
    refine JO.pur rfl rfl rfl (Pur.load rfl (CellIn.blk rfl)) ?_
    refine JO.nil ?_
    refine J.block rfl ?_
    refine J.seq rfl ?_
    refine J.seq rfl ?_
    refine J.region rfl ?_
    refine JO.pur rfl rfl rfl (Pur.eqlT rfl rfl) ?_
    refine JO.setv (u' := .bool false) 21 rfl (congrArg Value.bool (by decide)) ?_
    refine JO.pur rfl rfl rfl (Pur.assign rfl) ?_
    refine JO.nil ?_
    refine J.condF rfl rfl ?_
    refine J.seq rfl ?_
    refine J.region rfl ?_
    refine JO.pur rfl rfl rfl (Pur.eqlT rfl rfl) ?_
    refine JO.setv (u' := .bool false) 22 rfl (congrArg Value.bool (by decide)) ?_
    refine JO.pur rfl rfl rfl (Pur.assign rfl) ?_
    refine JO.nil ?_
    refine J.condF rfl rfl ?_
    refine J.region rfl ?_
    refine JO.pur rfl rfl rfl (Pur.eqlT rfl rfl) ?_
    refine JO.setv (u' := .bool false) 23 rfl (congrArg Value.bool (by decide)) ?_
    refine JO.pur rfl rfl rfl (Pur.assign rfl) ?_
    refine JO.nil ?_
    refine J.condF rfl rfl ?_
    refine J.seq rfl ?_
    refine J.region rfl ?_
    refine JO.pur rfl rfl rfl (Pur.eqlT rfl rfl) ?_
    refine JO.setv (u' := .bool false) 54 rfl (congrArg Value.bool (by decide)) ?_
    refine JO.pur rfl rfl rfl (Pur.assign rfl) ?_
    refine JO.nil ?_
    refine J.condF rfl rfl ?_
    refine J.seq rfl ?_
    refine J.region rfl ?_
    refine JO.pur rfl rfl rfl (Pur.eqlT rfl rfl) ?_
    refine JO.setv (u' := .bool true) 68 rfl (congrArg Value.bool (by decide)) ?_
    refine JO.pur rfl rfl rfl (Pur.assign rfl) ?_
    refine JO.nil ?_
    refine J.condT rfl rfl ?_
    refine J.seq rfl ?_
    refine J.region rfl ?_
    refine JO.pur rfl rfl rfl (Pur.move rfl) ?_
    refine JO.pur rfl rfl rfl (Pur.move rfl) ?_
    refine JO.pur rfl rfl rfl (Pur.fieldAddr rfl) ?_
    refine JO.pur rfl rfl rfl (Pur.load rfl (CellIn.blk rfl)) ?_
    refine JO.effR rfl rfl rfl (Eff.call rfl (at_ok w hw)) ?_
    refine JO.pur rfl rfl rfl (Pur.nilCheck rfl) ?_
    refine JO.pur rfl rfl rfl (Pur.loadA rfl rfl rfl (CellsIn.arr (E := vrE) rfl (vr_get hlw))) ?_
    refine JO.pur rfl rfl rfl (Pur.nilCheck rfl) ?_
    refine JO.effN rfl rfl (Eff.storeArr (E := vrE) (z' := (vr σ (vi w))) rfl rfl rfl rfl hlv rfl) ?_
    rintro _ _ ⟨rfl, rfl⟩
    refine JO.nil ?_
    refine J.seq rfl ?_
    refine J.region rfl ?_
    refine JO.pur rfl rfl rfl (Pur.move rfl) ?_
    refine JO.pur rfl rfl rfl (Pur.nilCheck rfl) ?_
    refine JO.pur rfl rfl rfl (Pur.fieldAddr rfl) ?_
    refine JO.pur rfl rfl rfl (Pur.load rfl (CellIn.arr (E := vrE) rfl (List.getElem?_set_self hlv) rfl)) ?_
    refine JO.pur rfl rfl rfl (Pur.eqlI rfl rfl) ?_
    refine JO.nil ?_
    refine J.splitB 81 rfl (fun h81 => ?_) (fun h81 => ?_)
    · try simp only [decide_eq_true_eq, decide_eq_false_iff_not, Bool.not_eq_true', Bool.not_eq_false', Bool.and_eq_true, Bool.or_eq_true, Bool.and_eq_false_iff, Bool.or_eq_false_iff, Option.isNone_some, Option.isSome_some, Option.isNone_none, Option.isSome_none, Int.not_lt, Int.not_le, beq_iff_eq, beq_eq_false_iff_ne, bne_iff_ne, ne_eq, Bool.not_not, Decidable.not_not] at h81
      have hm : (vr σ (vi w)).m = 2 := by omega
      obtain ⟨ho1, ho2⟩ := g.obj (vi w) (by omega)
      have hoc : (vr σ (vi w)).o < σ.count.length := by rw [g.cl]; exact ho2
      have hcnt := g.cnt _ ho2 (g.shr _ hm)
      have hsl := sharers_le g (vr σ (vi w)).o
      refine J.condT rfl rfl ?_
      refine J.mask0 (n := 13) [12] rfl Try.mixed rfl (by kernel_rfl) ?_
      refine JM.take 0 (fun _ h => h) rfl (by kernel_rfl) rfl rfl rfl (m' := 1) rfl (Pur.move rfl) ?_
      refine JM.take 1 (fun _ h => h) rfl (by kernel_rfl) rfl rfl rfl (m' := 3) rfl (Pur.nilCheck rfl) ?_
      refine JM.take 2 (fun _ h => h) rfl (by kernel_rfl) rfl rfl rfl (m' := 7) rfl (Pur.fieldAddr rfl) ?_
      refine JM.take 3 (fun _ h => h) rfl (by kernel_rfl) rfl rfl rfl (m' := 15) rfl (Pur.load rfl (CellIn.arrT (n := 16) (k := 1) (by first | (rw [hv8]; rfl) | (rw [List.length_set, hv8]; rfl) | (rw [List.length_set, List.length_set, hv8]; rfl)) rfl)) ?_
      refine JM.take 4 (fun _ h => h) rfl (by kernel_rfl) rfl rfl rfl (m' := 31) rfl (Pur.move rfl) ?_
      refine JM.take 5 (fun _ h => h) rfl (by kernel_rfl) rfl rfl rfl (m' := 63) rfl (Pur.nilCheck rfl) ?_
      refine JM.take 6 (fun _ h => h) rfl (by kernel_rfl) rfl rfl rfl (m' := 127) rfl (Pur.fieldAddr rfl) ?_
      refine JM.take 7 (fun _ h => h) rfl (by kernel_rfl) rfl rfl rfl (m' := 255) rfl (Pur.load rfl (CellIn.arr (E := vrE) rfl (List.getElem?_set_self hlv) rfl)) ?_
      refine JM.take 8 (fun _ h => h) rfl (by kernel_rfl) rfl rfl rfl (m' := 511) rfl (Pur.idx rfl rfl rfl (by first | rfl | (simp; done) | omega) rfl hoc) ?_
      refine JM.take 9 (fun _ h => h) rfl (by kernel_rfl) rfl rfl rfl (m' := 1023) rfl (Pur.load rfl (CellIn.el0 rfl (getD_get (d := 0) hoc) rfl)) ?_
      refine JM.take 10 (fun _ h => h) rfl (by kernel_rfl) rfl rfl rfl (m' := 2047) rfl (Pur.add rfl rfl (wr64 (by omega))) ?_
      refine JM.take 11 (fun _ h => h) rfl (by kernel_rfl) rfl rfl rfl (m' := 4095) rfl (Pur.idx rfl rfl rfl (by first | rfl | (simp; done) | omega) rfl hoc) ?_
      refine JM.one (i := 12) (by kernel_rfl) ?_
      refine JMi.effN rfl rfl rfl (m' := 8191) rfl (Eff.storeS0 (E := intE) (z' := _) rfl rfl rfl rfl (getD_get (d := 0) hoc) .head) ?_
      rintro _ _ ⟨rfl, rfl⟩
      refine ⟨.inl (by simp), ?_⟩
      refine JM.done rfl ?_
      refine J.inBlock ?_
      refine J.seq rfl ?_
      refine J.region rfl ?_
      refine JO.pur rfl rfl rfl (Pur.assign rfl) ?_
      refine JO.nil ?_
      refine J.ret rfl rfl ?_
      have hdo : doW σ ⟨sCopy, v, w⟩ = { putS σ (vi v) (vr σ (vi w)) with count := σ.count.set (vr σ (vi w)).o (σ.count.getD (vr σ (vi w)).o 0 + 1) } := by rw [doW_yes hr]; unfold doS; simp only [makesB, fromB, n_sCopy_sNew, n_sCopy_sShare, n_sCopy_sRaw, n_sCopy_sUse, n_sCopy_sFree, n_sCopy_sDrop, n_sCopy_sMove, n_sCopy_sBorrow, n_sCopy_sEither, n_sCopy_sOr, n_sCopy_sEnd, decide_true, decide_false, Bool.or_true, Bool.or_false, Bool.false_or, Bool.true_or, if_true, if_false, Bool.false_eq_true, ite_true, ite_false, reduceIte]; rw [if_pos hm]
      refine ⟨_, _, ⟨aa, ca, ac, cc, af, cf, by rw [hr]; rfl, rfl⟩, rfl, fun h s => ?_⟩
      rw [hdo]
      try dsimp only
      unfold putS; try dsimp only; rw [List.length_set]
      exact SubC.out h s
    · try simp only [decide_eq_true_eq, decide_eq_false_iff_not, Bool.not_eq_true', Bool.not_eq_false', Bool.and_eq_true, Bool.or_eq_true, Bool.and_eq_false_iff, Bool.or_eq_false_iff, Option.isNone_some, Option.isSome_some, Option.isNone_none, Option.isSome_none, Int.not_lt, Int.not_le, beq_iff_eq, beq_eq_false_iff_ne, bne_iff_ne, ne_eq, Bool.not_not, Decidable.not_not] at h81
      have hm : ¬ (vr σ (vi w)).m = 2 := by omega
      refine J.condF rfl rfl ?_
      refine J.skip rfl ?_
      refine J.inBlock ?_
      refine J.seq rfl ?_
      refine J.region rfl ?_
      refine JO.pur rfl rfl rfl (Pur.assign rfl) ?_
      refine JO.nil ?_
      refine J.ret rfl rfl ?_
      have hdo : doW σ ⟨sCopy, v, w⟩ = putS σ (vi v) (vr σ (vi w)) := by rw [doW_yes hr]; unfold doS; simp only [makesB, fromB, n_sCopy_sNew, n_sCopy_sShare, n_sCopy_sRaw, n_sCopy_sUse, n_sCopy_sFree, n_sCopy_sDrop, n_sCopy_sMove, n_sCopy_sBorrow, n_sCopy_sEither, n_sCopy_sOr, n_sCopy_sEnd, decide_true, decide_false, Bool.or_true, Bool.or_false, Bool.false_or, Bool.true_or, if_true, if_false, Bool.false_eq_true, ite_true, ite_false, reduceIte]; rw [if_neg hm]
      refine ⟨_, _, ⟨aa, ca, ac, cc, af, cf, by rw [hr]; rfl, rfl⟩, rfl, fun h s => ?_⟩
      rw [hdo]
      try dsimp only
      unfold putS; try dsimp only
      exact SubC.out h s

set_option maxRecDepth 10000 in
theorem do_sBorrow {L : List Asn} {b : Nat} {aa ac af : Option Addr} {ca cc cf : Nat} {σ : Sx} {v w : Str} (g : Ow.Good σ) (hv : isVarB v = true) (hw : isVarB w = true) :
    CallS Try.prog 49 [.pointer (some ⟨b, 0, none⟩), .agg #[.string sBorrow, .string v, .string w]].toArray (blk b (arr vrE σ.vars [.slice aa σ.alive.length ca, .slice ac σ.count.length cc, .slice af (fz σ.freed).length cf] 66) :: sl boolE aa ca σ.alive :: sl intE ac cc σ.count :: sl intE af cf (fz σ.freed) :: L) (fun x M => ∃ aa' ca' ac' cc' af' cf', x = .string (wrongS σ ⟨sBorrow, v, w⟩) ∧ M = blk b (arr vrE (doW σ ⟨sBorrow, v, w⟩).vars [.slice aa' (doW σ ⟨sBorrow, v, w⟩).alive.length ca', .slice ac' (doW σ ⟨sBorrow, v, w⟩).count.length cc', .slice af' (fz (doW σ ⟨sBorrow, v, w⟩).freed).length cf'] 66) :: sl boolE aa' ca' (doW σ ⟨sBorrow, v, w⟩).alive :: sl intE ac' cc' (doW σ ⟨sBorrow, v, w⟩).count :: sl intE af' cf' (fz (doW σ ⟨sBorrow, v, w⟩).freed) :: L) := by
  have hv8 := g.v8
  have hn21 := g.n21
  have hfl := freed_le g
  have hlv : vi v < σ.vars.length := by have := vi_lt hv; omega
  have hlw : vi w < σ.vars.length := by have := vi_lt hw; omega
  refine CallS.ent ?_
  refine CallS.enter Try.func49 rfl rfl rfl rfl rfl ?_
  refine J.seq rfl ?_
  refine J.region rfl ?_
  refine JO.eff rfl rfl rfl (Eff.box (cs := [_, _, _]) rfl rfl) ?_
  rintro _ _ ⟨b3, rfl, rfl⟩
  refine JO.pur rfl rfl rfl (Pur.assign rfl) ?_
  refine JO.nil ?_
  refine J.seq rfl ?_
  refine J.seq rfl ?_
  refine J.region rfl ?_
  refine JO.pur rfl rfl rfl (Pur.move rfl) ?_
  refine JO.pur rfl rfl rfl (Pur.loadA rfl rfl rfl CellsIn.blk) ?_
  refine JO.eff rfl rfl rfl (Eff.call rfl (CallS.pre (wrong_sBorrow (aa := aa) (ca := ca) (ac := ac) (cc := cc) (af := af) (cf := cf) (σ := σ) (v := v) (w := w) (L := blk b3 (.cells #[.string sBorrow, .string v, .string w] 46) :: L) g hv hw) SubC.out)) ?_
  rintro _ _ ⟨rfl, rfl⟩
  refine JO.pur rfl rfl rfl (Pur.assign rfl) ?_
  refine JO.nil ?_
  refine J.seq rfl ?_
  refine J.region rfl ?_
  refine JO.pur rfl rfl rfl (Pur.move rfl) ?_
  refine JO.pur rfl rfl rfl (Pur.neqT rfl rfl) ?_
  refine JO.nil ?_
  refine J.splitB 12 rfl (fun h12 => ?_) (fun h12 => ?_)
  · try simp only [decide_eq_true_eq, decide_eq_false_iff_not, Bool.not_eq_true', Bool.not_eq_false', Bool.and_eq_true, Bool.or_eq_true, Bool.and_eq_false_iff, Bool.or_eq_false_iff, Option.isNone_some, Option.isSome_some, Option.isNone_none, Option.isSome_none, Int.not_lt, Int.not_le, beq_iff_eq, beq_eq_false_iff_ne, bne_iff_ne, ne_eq, Bool.not_not, Decidable.not_not] at h12
    have hr : ¬ wrongS σ ⟨sBorrow, v, w⟩ = sNone := h12
    refine J.condT rfl rfl ?_
    refine J.seq rfl ?_
    refine J.region rfl ?_
    refine JO.pur rfl rfl rfl (Pur.move rfl) ?_
    refine JO.pur rfl rfl rfl (Pur.assign rfl) ?_
    refine JO.nil ?_
    refine J.ret rfl rfl ?_
    refine ⟨_, _, ⟨aa, ca, ac, cc, af, cf, rfl, rfl⟩, rfl, fun h s => ?_⟩
    rw [doW_no hr]
    exact SubC.out h s
  · try simp only [decide_eq_true_eq, decide_eq_false_iff_not, Bool.not_eq_true', Bool.not_eq_false', Bool.and_eq_true, Bool.or_eq_true, Bool.and_eq_false_iff, Bool.or_eq_false_iff, Option.isNone_some, Option.isSome_some, Option.isNone_none, Option.isSome_none, Int.not_lt, Int.not_le, beq_iff_eq, beq_eq_false_iff_ne, bne_iff_ne, ne_eq, Bool.not_not, Decidable.not_not] at h12
    have hr : wrongS σ ⟨sBorrow, v, w⟩ = sNone := h12
    have hR := wrong_none hr
    refine J.condF rfl rfl ?_
    refine J.skip rfl ?_
    refine J.seq rfl ?_
    refine J.region rfl ?_
    refine JO.pur rfl rfl rfl (Pur.move rfl) ?_
    refine JO.pur rfl rfl rfl (Pur.fieldAddr rfl) ?_
    refine JO.pur rfl rfl rfl (Pur.load rfl (CellIn.blk rfl)) ?_
    refine JO.effR rfl rfl rfl (Eff.call rfl (at_ok v hv)) ?_
    refine JO.pur rfl rfl rfl (Pur.assign rfl) ?_
    refine JO.nil ?_
    refine J.seq rfl ?_
    refine J.seq rfl ?_
    refine J.region rfl ?_
    refine JO.pur rfl rfl rfl (Pur.fieldAddr rfl) ?_
    refine JO.pur rfl rfl rfl (Pur.load rfl (CellIn.blk rfl)) ?_
    refine JO.nil ?_
    refine J.block rfl ?_
    refine J.seq rfl ?_
    refine J.seq rfl ?_
    refine J.region rfl ?_
    refine JO.pur rfl rfl rfl (Pur.eqlT rfl rfl) ?_
    refine JO.setv (u' := .bool false) 21 rfl (congrArg Value.bool (by decide)) ?_
    refine JO.pur rfl rfl rfl (Pur.assign rfl) ?_
    refine JO.nil ?_
    refine J.condF rfl rfl ?_
    refine J.seq rfl ?_
    refine J.region rfl ?_
    refine JO.pur rfl rfl rfl (Pur.eqlT rfl rfl) ?_
    refine JO.setv (u' := .bool false) 22 rfl (congrArg Value.bool (by decide)) ?_
    refine JO.pur rfl rfl rfl (Pur.assign rfl) ?_
    refine JO.nil ?_
    refine J.condF rfl rfl ?_
    refine J.region rfl ?_
    refine JO.pur rfl rfl rfl (Pur.eqlT rfl rfl) ?_
    refine JO.setv (u' := .bool false) 23 rfl (congrArg Value.bool (by decide)) ?_
    refine JO.pur rfl rfl rfl (Pur.assign rfl) ?_
    refine JO.nil ?_
    refine J.condF rfl rfl ?_
    refine J.seq rfl ?_
    refine J.region rfl ?_
    refine JO.pur rfl rfl rfl (Pur.eqlT rfl rfl) ?_
    refine JO.setv (u' := .bool false) 54 rfl (congrArg Value.bool (by decide)) ?_
    refine JO.pur rfl rfl rfl (Pur.assign rfl) ?_
    refine JO.nil ?_
    refine J.condF rfl rfl ?_
    refine J.seq rfl ?_
    refine J.region rfl ?_
    refine JO.pur rfl rfl rfl (Pur.eqlT rfl rfl) ?_
    refine JO.setv (u' := .bool false) 68 rfl (congrArg Value.bool (by decide)) ?_
    refine JO.pur rfl rfl rfl (Pur.assign rfl) ?_
    refine JO.nil ?_
    refine J.condF rfl rfl ?_
    refine J.seq rfl ?_
    refine J.region rfl ?_
    refine JO.pur rfl rfl rfl (Pur.eqlT rfl rfl) ?_
    refine JO.setv (u' := .bool true) 95 rfl (congrArg Value.bool (by decide)) ?_
    refine JO.pur rfl rfl rfl (Pur.assign rfl) ?_
    refine JO.nil ?_
    refine J.condT rfl rfl ?_
    refine J.region rfl ?_
    refine JO.pur rfl rfl rfl (Pur.move rfl) ?_
    refine JO.pur rfl rfl rfl (Pur.move rfl) ?_
    refine JO.pur rfl rfl rfl (Pur.fieldAddr rfl) ?_
    refine JO.pur rfl rfl rfl (Pur.load rfl (CellIn.blk rfl)) ?_
    refine JO.effR rfl rfl rfl (Eff.call rfl (at_ok w hw)) ?_
    refine JO.pur rfl rfl rfl (Pur.nilCheck rfl) ?_
    refine JO.pur rfl rfl rfl (Pur.fieldAddr rfl) ?_
    refine JO.pur rfl rfl rfl (Pur.load rfl (CellIn.arr (E := vrE) rfl (vr_get hlw) rfl)) ?_
    refine JO.pur rfl rfl rfl (Pur.build (cs := [_, _]) rfl rfl) ?_
    refine JO.pur rfl rfl rfl (Pur.nilCheck rfl) ?_
    refine JO.effN rfl rfl (Eff.storeArr (E := vrE) (z' := ⟨3, (vr σ (vi w)).o⟩) rfl rfl rfl rfl hlv rfl) ?_
    rintro _ _ ⟨rfl, rfl⟩
    refine JO.nil ?_
    refine J.inBlock ?_
    refine J.seq rfl ?_
    refine J.region rfl ?_
    refine JO.pur rfl rfl rfl (Pur.assign rfl) ?_
    refine JO.nil ?_
    refine J.ret rfl rfl ?_
    have hdo : doW σ ⟨sBorrow, v, w⟩ = putS σ (vi v) ⟨3, (vr σ (vi w)).o⟩ := by rw [doW_yes hr]; unfold doS; simp only [makesB, fromB, n_sBorrow_sNew, n_sBorrow_sShare, n_sBorrow_sRaw, n_sBorrow_sUse, n_sBorrow_sFree, n_sBorrow_sDrop, n_sBorrow_sMove, n_sBorrow_sCopy, n_sBorrow_sEither, n_sBorrow_sOr, n_sBorrow_sEnd, decide_true, decide_false, Bool.or_true, Bool.or_false, Bool.false_or, Bool.true_or, if_true, if_false, Bool.false_eq_true, ite_true, ite_false, reduceIte]
    refine ⟨_, _, ⟨aa, ca, ac, cc, af, cf, by rw [hr]; rfl, rfl⟩, rfl, fun h s => ?_⟩
    rw [hdo]
    try dsimp only
    unfold putS; try dsimp only
    exact SubC.out h s

end Go.Proofs.Ythdaopmfgmojnaa
