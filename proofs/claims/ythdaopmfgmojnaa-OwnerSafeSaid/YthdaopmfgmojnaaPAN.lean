/-
  A part of the proof of the claim that this folder bears.
-/
import Derived.Test.YthdaopmfgmojnaaPAM
/- The text ORDoes. -/
set_option linter.unusedVariables false
set_option linter.unusedSimpArgs false
namespace Go.Proofs.Ythdaopmfgmojnaa
open Go Go.KK Ow

theorem tail_snoc {l : List Bool} (h : 1 ≤ l.length) (x : Bool) : l.tail ++ [x] = (l ++ [x]).tail := by
  cases l with
  | nil => simp at h
  | cons y r => rfl
theorem rc_snoc {σ : Sx} {vs : List Vr} {fr : List Nat} {x : Bool} {c : Int} {k : Nat} (h1 : 1 ≤ σ.alive.length) (hc : σ.count.length = σ.alive.length) (hk : σ.kind.length = σ.alive.length) : rc ⟨vs, σ.alive ++ [x], σ.count ++ [c], fr, σ.kind ++ [k]⟩ = rc σ ++ [if k = 2 then c else 0] := by
  unfold rc
  simp only [List.length_append, List.length_singleton]
  rw [show σ.alive.length + 1 - 1 = (σ.alive.length - 1) + 1 by omega, List.range_succ, List.map_append]
  congr 1
  · apply List.map_congr_left
    intro j hj
    have hj' := List.mem_range.1 hj
    rw [getD_snoc, getD_snoc, if_neg (show ¬ j + 1 = σ.kind.length by omega), if_neg (show ¬ j + 1 = σ.count.length by omega)]
  · simp only [List.map_cons, List.map_nil]
    rw [getD_snoc, getD_snoc, if_pos (show σ.alive.length - 1 + 1 = σ.kind.length by omega), if_pos (show σ.alive.length - 1 + 1 = σ.count.length by omega)]
set_option maxRecDepth 10000 in
theorem rdoes_sNew {L : List Asn} {b : Nat} {aa ac af : Option Addr} {ca cc cf : Nat} {σ : Sx} {v w : Str} (g : Ow.Good σ) (hr : wrongS σ ⟨sNew, v, w⟩ = sNone) (hv' : isVarB v = true) (hw : isVarB w = false) :
    CallS Try.prog 51 [.pointer (some ⟨b, 0, none⟩), .agg #[.string sNew, .string v, .string w]].toArray (blk b (arr hE (hs σ.vars) [.slice aa σ.alive.tail.length ca, .slice ac (rc σ).length cc, .slice af (fz σ.freed).length cf] 71) :: sl boolE aa ca σ.alive.tail :: sl intE ac cc (rc σ) :: sl intE af cf (fz σ.freed) :: L) (fun x M => ∃ aa' ca' ac' cc' af' cf', x = .tuple #[] ∧ M = blk b (arr hE (hs (doS σ ⟨sNew, v, w⟩).vars) [.slice aa' (doS σ ⟨sNew, v, w⟩).alive.tail.length ca', .slice ac' (rc (doS σ ⟨sNew, v, w⟩)).length cc', .slice af' (fz (doS σ ⟨sNew, v, w⟩).freed).length cf'] 71) :: sl boolE aa' ca' (doS σ ⟨sNew, v, w⟩).alive.tail :: sl intE ac' cc' (rc (doS σ ⟨sNew, v, w⟩)) :: sl intE af' cf' (fz (doS σ ⟨sNew, v, w⟩).freed) :: L) := by
  have hv8 := g.v8
  have hn21 := g.n21
  have hn1 := g.n1
  have hfl := freed_le g
  have htl : σ.alive.tail.length = σ.alive.length - 1 := List.length_tail
  have hrl := rc_len σ
  have hv9 := vi_lt hv'
  have hR := wrong_none hr
  have hlv : vi v < σ.vars.length := by omega
  have hn20 := hR.w1 (show makesB sNew = true by decide)
  have hk7 : (((rc σ).length + [(0 : Int)].length : Nat) : Int) - 1 = ((σ.alive.length - 1 : Nat) : Int) := by rw [hrl]; show ((σ.alive.length - 1 + 1 : Nat) : Int) - 1 = _; omega
  have hset7 : (rc σ ++ [(0 : Int)]).set (σ.alive.length - 1) 1 = rc σ ++ [1] := by rw [← hrl, List.set_append_right _ _ (Nat.le_refl _)]; simp
  refine CallS.ent ?_
  refine CallS.enter Try.func51 rfl rfl rfl rfl rfl ?_
  refine J.seq rfl ?_
  refine J.region rfl ?_
  refine JO.eff rfl rfl rfl (Eff.box (cs := [_, _, _]) rfl rfl) ?_
  rintro _ _ ⟨b3, rfl, rfl⟩
  refine JO.nil ?_
  refine J.seq rfl ?_
  refine J.quiet rfl Try.mixed (by kernel_rfl) ?_
  refine JQ.pur rfl rfl rfl (Pur.fieldAddr rfl) ?_
  refine JQ.pur rfl rfl rfl (Pur.load rfl (CellIn.blk rfl)) ?_
  refine JQ.callE rfl rfl rfl ((CallS.eqv (v' := .int .i64 (vi v : Int)) (index_r_ok v) (congrArg (Value.int .i64) (by unfold ixV; rw [if_pos hv'])))) ?_
  refine JQ.pur rfl rfl rfl (Pur.fieldAddr rfl) ?_
  refine JQ.pur rfl rfl rfl (Pur.load rfl (CellIn.blk rfl)) ?_
  refine JQ.callE rfl rfl rfl ((CallS.eqv (v' := .int .i64 (-1)) (index_r_ok w) (congrArg (Value.int .i64) (by unfold ixV; rw [if_neg (by rw [hw]; simp)])))) ?_
  refine JQ.pur rfl rfl rfl (Pur.assign rfl) ?_
  refine JQ.pur rfl rfl rfl (Pur.assign rfl) ?_
  refine JQ.nil ?_
  refine J.seq rfl ?_
  refine J.region rfl ?_
  refine JO.pur rfl rfl rfl (Pur.fieldAddr rfl) ?_
  refine JO.pur rfl rfl rfl (Pur.load rfl (CellIn.blk rfl)) ?_
  refine JO.nil ?_
  refine J.block rfl ?_
  refine J.seq rfl ?_
  refine J.seq rfl ?_
  refine J.region rfl ?_
  refine JO.pur rfl rfl rfl (Pur.eqlT rfl rfl) ?_
  refine JO.setv (u' := .bool true) 15 rfl (congrArg Value.bool (by decide)) ?_
  refine JO.pur rfl rfl rfl (Pur.assign rfl) ?_
  refine JO.nil ?_
  refine J.condT rfl rfl ?_
  refine J.skip rfl ?_
  refine J.condT rfl rfl ?_
  refine J.seq rfl ?_
  refine J.region rfl ?_
  refine JO.pur rfl rfl rfl (Pur.move rfl) ?_
  refine JO.pur rfl rfl rfl (Pur.move rfl) ?_
  refine JO.pur rfl rfl rfl (Pur.nilCheck rfl) ?_
  refine JO.pur rfl rfl rfl (Pur.fieldAddr rfl) ?_
  refine JO.pur rfl rfl rfl (Pur.load rfl (CellIn.arrT (n := 16) (k := 0) (by first | (rw [hs_len, hv8]; rfl) | (rw [List.length_set, hs_len, hv8]; rfl) | (simp only [List.length_set, hs_len, hv8]; rfl)) rfl)) ?_
  refine JO.eff rfl rfl rfl (Eff.buildSlice boolE [true] rfl rfl rfl rfl rfl rfl rfl) ?_
  rintro _ _ ⟨b23, rfl, -, rfl⟩
  refine JO.eff rfl rfl rfl (Eff.append rfl rfl rfl rfl (by first | rfl | omega | (simp; done) | (simp; omega)) (by first | rfl | omega | (simp; done) | (simp; omega)) (by decide) (by first | omega | (simp only [List.length_cons, List.length_nil]; omega) | (simp; omega)) (by first | omega | (simp only [List.length_cons, List.length_nil]; omega) | (simp; omega)) (fun h => by cases h)) ?_
  rintro _ _ ⟨a24, c24, rfl, rfl⟩
  refine JO.pur rfl rfl rfl (Pur.nilCheck rfl) ?_
  refine JO.pur rfl rfl rfl (Pur.fieldAddr rfl) ?_
  refine JO.effN rfl rfl (Eff.storeArrT (n := 16) (k := 0) rfl rfl rfl (by first | (rw [hs_len, hv8]; rfl) | (rw [List.length_set, hs_len, hv8]; rfl) | (simp only [List.length_set, hs_len, hv8]; rfl)) .head) ?_
  rintro _ _ ⟨rfl, rfl⟩
  refine JO.nil ?_
  refine J.seq rfl ?_
  refine J.region rfl ?_
  refine JO.pur rfl rfl rfl (Pur.move rfl) ?_
  refine JO.pur rfl rfl rfl (Pur.move rfl) ?_
  refine JO.pur rfl rfl rfl (Pur.nilCheck rfl) ?_
  refine JO.pur rfl rfl rfl (Pur.fieldAddr rfl) ?_
  refine JO.pur rfl rfl rfl (Pur.load rfl (CellIn.arrT (n := 16) (k := 1) (by first | (rw [hs_len, hv8]; rfl) | (rw [List.length_set, hs_len, hv8]; rfl) | (simp only [List.length_set, hs_len, hv8]; rfl)) rfl)) ?_
  refine JO.eff rfl rfl rfl (Eff.buildSlice intE [0] rfl rfl rfl rfl rfl rfl rfl) ?_
  rintro _ _ ⟨b32, rfl, -, rfl⟩
  refine JO.eff rfl rfl rfl (Eff.append rfl rfl rfl rfl (by first | rfl | omega | (simp; done) | (simp; omega)) (by first | rfl | omega | (simp; done) | (simp; omega)) (by decide) (by first | omega | (simp only [List.length_cons, List.length_nil]; omega) | (simp; omega)) (by first | omega | (simp only [List.length_cons, List.length_nil]; omega) | (simp; omega)) (fun h => by cases h)) ?_
  rintro _ _ ⟨a33, c33, rfl, rfl⟩
  refine JO.pur rfl rfl rfl (Pur.nilCheck rfl) ?_
  refine JO.pur rfl rfl rfl (Pur.fieldAddr rfl) ?_
  refine JO.effN rfl rfl (Eff.storeArrT (n := 16) (k := 1) rfl rfl rfl (by first | (rw [hs_len, hv8]; rfl) | (rw [List.length_set, hs_len, hv8]; rfl) | (simp only [List.length_set, hs_len, hv8]; rfl)) (.tail .head)) ?_
  rintro _ _ ⟨rfl, rfl⟩
  refine JO.nil ?_
  refine J.seq rfl ?_
  refine J.mask0 (n := 14) [13] rfl Try.mixed rfl (by kernel_rfl) ?_
  refine JM.take 0 (fun _ h => h) rfl (by kernel_rfl) rfl rfl rfl (m' := 1) rfl (Pur.move rfl) ?_
  refine JM.take 1 (fun _ h => h) rfl (by kernel_rfl) rfl rfl rfl (m' := 3) rfl (Pur.move rfl) ?_
  refine JM.take 2 (fun _ h => h) rfl (by kernel_rfl) rfl rfl rfl (m' := 7) rfl (Pur.move rfl) ?_
  refine JM.take 3 (fun _ h => h) rfl (by kernel_rfl) rfl rfl rfl (m' := 15) rfl (Pur.nilCheck rfl) ?_
  refine JM.take 4 (fun _ h => h) rfl (by kernel_rfl) rfl rfl rfl (m' := 31) rfl (Pur.fieldAddr rfl) ?_
  refine JM.take 5 (fun _ h => h) rfl (by kernel_rfl) rfl rfl rfl (m' := 63) rfl (Pur.load rfl (CellIn.arrT (n := 16) (k := 0) (by first | (rw [hs_len, hv8]; rfl) | (rw [List.length_set, hs_len, hv8]; rfl) | (simp only [List.length_set, hs_len, hv8]; rfl)) rfl)) ?_
  refine JM.take 6 (fun _ h => h) rfl (by kernel_rfl) rfl rfl rfl (m' := 127) rfl (Pur.len rfl) ?_
  refine JM.take 7 (fun _ h => h) rfl (by kernel_rfl) rfl rfl rfl (m' := 255) rfl (Pur.fieldAddr rfl) ?_
  refine JM.take 8 (fun _ h => h) rfl (by kernel_rfl) rfl rfl rfl (m' := 511) rfl (Pur.load rfl (CellIn.blk rfl)) ?_
  refine JM.take 9 (fun _ h => h) rfl (by kernel_rfl) rfl rfl rfl (m' := 1023) rfl (Pur.build (cs := [_, _]) rfl rfl) ?_
  refine JM.take 10 (fun _ h => h) rfl (by kernel_rfl) rfl rfl rfl (m' := 2047) rfl (Pur.nilCheck rfl) ?_
  refine JM.take 11 (fun _ h => h) rfl (by kernel_rfl) rfl rfl rfl (m' := 4095) rfl (Pur.fieldAddr rfl) ?_
  refine JM.take 12 (fun _ h => h) rfl (by kernel_rfl) rfl rfl rfl (m' := 8191) rfl (Pur.idxV (k := vi v) rfl rfl rfl (by omega)) ?_
  refine JM.one (i := 13) (by kernel_rfl) ?_
  refine JMi.effN rfl rfl rfl (m' := 16383) rfl (Eff.storeArr (E := hE) (z' := (((σ.alive.tail.length + [true].length : Nat) : Int), sNew)) rfl rfl rfl rfl (by rw [hs_len]; exact hlv) rfl) ?_
  rintro _ _ ⟨rfl, rfl⟩
  refine ⟨.inl (by simp), ?_⟩
  refine JM.done rfl ?_
  refine J.seq rfl ?_
  refine J.region rfl ?_
  refine JO.pur rfl rfl rfl (Pur.fieldAddr rfl) ?_
  refine JO.pur rfl rfl rfl (Pur.load rfl (CellIn.blk rfl)) ?_
  refine JO.nil ?_
  refine J.block rfl ?_
  refine J.seq rfl ?_
  refine J.region rfl ?_
  refine JO.pur rfl rfl rfl (Pur.eqlT rfl rfl) ?_
  refine JO.setv (u' := .bool true) 52 rfl (congrArg Value.bool (by decide)) ?_
  refine JO.pur rfl rfl rfl (Pur.assign rfl) ?_
  refine JO.nil ?_
  refine J.condT rfl rfl ?_
  refine J.region rfl ?_
  refine JO.pur rfl rfl rfl (Pur.move rfl) ?_
  refine JO.pur rfl rfl rfl (Pur.move rfl) ?_
  refine JO.pur rfl rfl rfl (Pur.nilCheck rfl) ?_
  refine JO.pur rfl rfl rfl (Pur.fieldAddr rfl) ?_
  refine JO.pur rfl rfl rfl (Pur.idxV (k := vi v) rfl rfl rfl (by omega)) ?_
  refine JO.pur rfl rfl rfl (Pur.fieldAddr rfl) ?_
  refine JO.effN rfl rfl (Eff.storeArrF (E := hE) (z := (((σ.alive.tail.length + [true].length : Nat) : Int), sNew)) (z' := (((σ.alive.tail.length + [true].length : Nat) : Int), sOwned)) rfl rfl rfl rfl (by exact List.getElem?_set_self (by rw [hs_len]; exact hlv)) (.tail .head)) ?_
  rintro _ _ ⟨rfl, rfl⟩
  refine JO.nil ?_
  refine J.inBlock ?_
  refine J.inBlock ?_
  refine J.fin rfl ?_
  have hdo : doS σ ⟨sNew, v, w⟩ = ⟨σ.vars.set (vi v) ⟨mannerOf sNew, σ.alive.length⟩, σ.alive ++ [true], σ.count ++ [1], σ.freed, σ.kind ++ [mannerOf sNew]⟩ := by unfold doS; simp only [makesB, fromB, n_sNew_sShare, n_sNew_sRaw, n_sNew_sUse, n_sNew_sFree, n_sNew_sDrop, n_sNew_sMove, n_sNew_sCopy, n_sNew_sBorrow, n_sNew_sEither, n_sNew_sOr, n_sNew_sEnd, decide_true, decide_false, Bool.or_true, Bool.or_false, Bool.false_or, Bool.true_or, if_true, if_false, Bool.false_eq_true, ite_true, ite_false, reduceIte]
  have ez : (((σ.alive.tail.length + [true].length : Nat) : Int), sOwned) = hv ⟨mannerOf sNew, σ.alive.length⟩ := by unfold hv; dsimp only; rw [htl, show σ.alive.length - 1 + [true].length = σ.alive.length from (by show σ.alive.length - 1 + 1 = _; omega)]; rfl
  have e9 : rc ⟨σ.vars.set (vi v) ⟨mannerOf sNew, σ.alive.length⟩, σ.alive ++ [true], σ.count ++ [1], σ.freed, σ.kind ++ [mannerOf sNew]⟩ = rc σ ++ [0] := rc_snoc g.n1 g.cl g.kl
  refine ⟨_, _, ⟨a24, c24, a33, c33, af, cf, rfl, rfl⟩, rfl, fun h s => ?_⟩
  rw [hdo]
  rw [e9]
  try dsimp only
  rw [List.set_set] at s
  rw [ez, hs_set] at s
  rw [tail_snoc g.n1] at s
  rw [show σ.alive.tail.length + [true].length = (σ.alive ++ [true]).tail.length by simp; omega] at s
  rw [show (rc σ ++ [0] : List Int).length = (rc σ).length + [(0 : Int)].length by simp]
  exact SubC.out h s

set_option maxRecDepth 10000 in
theorem rdoes_sShare {L : List Asn} {b : Nat} {aa ac af : Option Addr} {ca cc cf : Nat} {σ : Sx} {v w : Str} (g : Ow.Good σ) (hr : wrongS σ ⟨sShare, v, w⟩ = sNone) (hv' : isVarB v = true) (hw : isVarB w = false) :
    CallS Try.prog 51 [.pointer (some ⟨b, 0, none⟩), .agg #[.string sShare, .string v, .string w]].toArray (blk b (arr hE (hs σ.vars) [.slice aa σ.alive.tail.length ca, .slice ac (rc σ).length cc, .slice af (fz σ.freed).length cf] 71) :: sl boolE aa ca σ.alive.tail :: sl intE ac cc (rc σ) :: sl intE af cf (fz σ.freed) :: L) (fun x M => ∃ aa' ca' ac' cc' af' cf', x = .tuple #[] ∧ M = blk b (arr hE (hs (doS σ ⟨sShare, v, w⟩).vars) [.slice aa' (doS σ ⟨sShare, v, w⟩).alive.tail.length ca', .slice ac' (rc (doS σ ⟨sShare, v, w⟩)).length cc', .slice af' (fz (doS σ ⟨sShare, v, w⟩).freed).length cf'] 71) :: sl boolE aa' ca' (doS σ ⟨sShare, v, w⟩).alive.tail :: sl intE ac' cc' (rc (doS σ ⟨sShare, v, w⟩)) :: sl intE af' cf' (fz (doS σ ⟨sShare, v, w⟩).freed) :: L) := by
  have hv8 := g.v8
  have hn21 := g.n21
  have hn1 := g.n1
  have hfl := freed_le g
  have htl : σ.alive.tail.length = σ.alive.length - 1 := List.length_tail
  have hrl := rc_len σ
  have hv9 := vi_lt hv'
  have hR := wrong_none hr
  have hlv : vi v < σ.vars.length := by omega
  have hn20 := hR.w1 (show makesB sShare = true by decide)
  have hk7 : (((rc σ).length + [(0 : Int)].length : Nat) : Int) - 1 = ((σ.alive.length - 1 : Nat) : Int) := by rw [hrl]; show ((σ.alive.length - 1 + 1 : Nat) : Int) - 1 = _; omega
  have hset7 : (rc σ ++ [(0 : Int)]).set (σ.alive.length - 1) 1 = rc σ ++ [1] := by rw [← hrl, List.set_append_right _ _ (Nat.le_refl _)]; simp
  refine CallS.ent ?_
  refine CallS.enter Try.func51 rfl rfl rfl rfl rfl ?_
  refine J.seq rfl ?_
  refine J.region rfl ?_
  refine JO.eff rfl rfl rfl (Eff.box (cs := [_, _, _]) rfl rfl) ?_
  rintro _ _ ⟨b3, rfl, rfl⟩
  refine JO.nil ?_
  refine J.seq rfl ?_
  refine J.quiet rfl Try.mixed (by kernel_rfl) ?_
  refine JQ.pur rfl rfl rfl (Pur.fieldAddr rfl) ?_
  refine JQ.pur rfl rfl rfl (Pur.load rfl (CellIn.blk rfl)) ?_
  refine JQ.callE rfl rfl rfl ((CallS.eqv (v' := .int .i64 (vi v : Int)) (index_r_ok v) (congrArg (Value.int .i64) (by unfold ixV; rw [if_pos hv'])))) ?_
  refine JQ.pur rfl rfl rfl (Pur.fieldAddr rfl) ?_
  refine JQ.pur rfl rfl rfl (Pur.load rfl (CellIn.blk rfl)) ?_
  refine JQ.callE rfl rfl rfl ((CallS.eqv (v' := .int .i64 (-1)) (index_r_ok w) (congrArg (Value.int .i64) (by unfold ixV; rw [if_neg (by rw [hw]; simp)])))) ?_
  refine JQ.pur rfl rfl rfl (Pur.assign rfl) ?_
  refine JQ.pur rfl rfl rfl (Pur.assign rfl) ?_
  refine JQ.nil ?_
  refine J.seq rfl ?_
  refine J.region rfl ?_
  refine JO.pur rfl rfl rfl (Pur.fieldAddr rfl) ?_
  refine JO.pur rfl rfl rfl (Pur.load rfl (CellIn.blk rfl)) ?_
  refine JO.nil ?_
  refine J.block rfl ?_
  refine J.seq rfl ?_
  refine J.seq rfl ?_
  refine J.region rfl ?_
  refine JO.pur rfl rfl rfl (Pur.eqlT rfl rfl) ?_
  refine JO.setv (u' := .bool false) 15 rfl (congrArg Value.bool (by decide)) ?_
  refine JO.pur rfl rfl rfl (Pur.assign rfl) ?_
  refine JO.nil ?_
  refine J.condF rfl rfl ?_
  refine J.seq rfl ?_
  refine J.region rfl ?_
  refine JO.pur rfl rfl rfl (Pur.eqlT rfl rfl) ?_
  refine JO.setv (u' := .bool true) 16 rfl (congrArg Value.bool (by decide)) ?_
  refine JO.pur rfl rfl rfl (Pur.assign rfl) ?_
  refine JO.nil ?_
  refine J.condT rfl rfl ?_
  refine J.skip rfl ?_
  refine J.condT rfl rfl ?_
  refine J.seq rfl ?_
  refine J.region rfl ?_
  refine JO.pur rfl rfl rfl (Pur.move rfl) ?_
  refine JO.pur rfl rfl rfl (Pur.move rfl) ?_
  refine JO.pur rfl rfl rfl (Pur.nilCheck rfl) ?_
  refine JO.pur rfl rfl rfl (Pur.fieldAddr rfl) ?_
  refine JO.pur rfl rfl rfl (Pur.load rfl (CellIn.arrT (n := 16) (k := 0) (by first | (rw [hs_len, hv8]; rfl) | (rw [List.length_set, hs_len, hv8]; rfl) | (simp only [List.length_set, hs_len, hv8]; rfl)) rfl)) ?_
  refine JO.eff rfl rfl rfl (Eff.buildSlice boolE [true] rfl rfl rfl rfl rfl rfl rfl) ?_
  rintro _ _ ⟨b23, rfl, -, rfl⟩
  refine JO.eff rfl rfl rfl (Eff.append rfl rfl rfl rfl (by first | rfl | omega | (simp; done) | (simp; omega)) (by first | rfl | omega | (simp; done) | (simp; omega)) (by decide) (by first | omega | (simp only [List.length_cons, List.length_nil]; omega) | (simp; omega)) (by first | omega | (simp only [List.length_cons, List.length_nil]; omega) | (simp; omega)) (fun h => by cases h)) ?_
  rintro _ _ ⟨a24, c24, rfl, rfl⟩
  refine JO.pur rfl rfl rfl (Pur.nilCheck rfl) ?_
  refine JO.pur rfl rfl rfl (Pur.fieldAddr rfl) ?_
  refine JO.effN rfl rfl (Eff.storeArrT (n := 16) (k := 0) rfl rfl rfl (by first | (rw [hs_len, hv8]; rfl) | (rw [List.length_set, hs_len, hv8]; rfl) | (simp only [List.length_set, hs_len, hv8]; rfl)) .head) ?_
  rintro _ _ ⟨rfl, rfl⟩
  refine JO.nil ?_
  refine J.seq rfl ?_
  refine J.region rfl ?_
  refine JO.pur rfl rfl rfl (Pur.move rfl) ?_
  refine JO.pur rfl rfl rfl (Pur.move rfl) ?_
  refine JO.pur rfl rfl rfl (Pur.nilCheck rfl) ?_
  refine JO.pur rfl rfl rfl (Pur.fieldAddr rfl) ?_
  refine JO.pur rfl rfl rfl (Pur.load rfl (CellIn.arrT (n := 16) (k := 1) (by first | (rw [hs_len, hv8]; rfl) | (rw [List.length_set, hs_len, hv8]; rfl) | (simp only [List.length_set, hs_len, hv8]; rfl)) rfl)) ?_
  refine JO.eff rfl rfl rfl (Eff.buildSlice intE [0] rfl rfl rfl rfl rfl rfl rfl) ?_
  rintro _ _ ⟨b32, rfl, -, rfl⟩
  refine JO.eff rfl rfl rfl (Eff.append rfl rfl rfl rfl (by first | rfl | omega | (simp; done) | (simp; omega)) (by first | rfl | omega | (simp; done) | (simp; omega)) (by decide) (by first | omega | (simp only [List.length_cons, List.length_nil]; omega) | (simp; omega)) (by first | omega | (simp only [List.length_cons, List.length_nil]; omega) | (simp; omega)) (fun h => by cases h)) ?_
  rintro _ _ ⟨a33, c33, rfl, rfl⟩
  refine JO.pur rfl rfl rfl (Pur.nilCheck rfl) ?_
  refine JO.pur rfl rfl rfl (Pur.fieldAddr rfl) ?_
  refine JO.effN rfl rfl (Eff.storeArrT (n := 16) (k := 1) rfl rfl rfl (by first | (rw [hs_len, hv8]; rfl) | (rw [List.length_set, hs_len, hv8]; rfl) | (simp only [List.length_set, hs_len, hv8]; rfl)) (.tail .head)) ?_
  rintro _ _ ⟨rfl, rfl⟩
  refine JO.nil ?_
  refine J.seq rfl ?_
  refine J.mask0 (n := 14) [13] rfl Try.mixed rfl (by kernel_rfl) ?_
  refine JM.take 0 (fun _ h => h) rfl (by kernel_rfl) rfl rfl rfl (m' := 1) rfl (Pur.move rfl) ?_
  refine JM.take 1 (fun _ h => h) rfl (by kernel_rfl) rfl rfl rfl (m' := 3) rfl (Pur.move rfl) ?_
  refine JM.take 2 (fun _ h => h) rfl (by kernel_rfl) rfl rfl rfl (m' := 7) rfl (Pur.move rfl) ?_
  refine JM.take 3 (fun _ h => h) rfl (by kernel_rfl) rfl rfl rfl (m' := 15) rfl (Pur.nilCheck rfl) ?_
  refine JM.take 4 (fun _ h => h) rfl (by kernel_rfl) rfl rfl rfl (m' := 31) rfl (Pur.fieldAddr rfl) ?_
  refine JM.take 5 (fun _ h => h) rfl (by kernel_rfl) rfl rfl rfl (m' := 63) rfl (Pur.load rfl (CellIn.arrT (n := 16) (k := 0) (by first | (rw [hs_len, hv8]; rfl) | (rw [List.length_set, hs_len, hv8]; rfl) | (simp only [List.length_set, hs_len, hv8]; rfl)) rfl)) ?_
  refine JM.take 6 (fun _ h => h) rfl (by kernel_rfl) rfl rfl rfl (m' := 127) rfl (Pur.len rfl) ?_
  refine JM.take 7 (fun _ h => h) rfl (by kernel_rfl) rfl rfl rfl (m' := 255) rfl (Pur.fieldAddr rfl) ?_
  refine JM.take 8 (fun _ h => h) rfl (by kernel_rfl) rfl rfl rfl (m' := 511) rfl (Pur.load rfl (CellIn.blk rfl)) ?_
  refine JM.take 9 (fun _ h => h) rfl (by kernel_rfl) rfl rfl rfl (m' := 1023) rfl (Pur.build (cs := [_, _]) rfl rfl) ?_
  refine JM.take 10 (fun _ h => h) rfl (by kernel_rfl) rfl rfl rfl (m' := 2047) rfl (Pur.nilCheck rfl) ?_
  refine JM.take 11 (fun _ h => h) rfl (by kernel_rfl) rfl rfl rfl (m' := 4095) rfl (Pur.fieldAddr rfl) ?_
  refine JM.take 12 (fun _ h => h) rfl (by kernel_rfl) rfl rfl rfl (m' := 8191) rfl (Pur.idxV (k := vi v) rfl rfl rfl (by omega)) ?_
  refine JM.one (i := 13) (by kernel_rfl) ?_
  refine JMi.effN rfl rfl rfl (m' := 16383) rfl (Eff.storeArr (E := hE) (z' := (((σ.alive.tail.length + [true].length : Nat) : Int), sShare)) rfl rfl rfl rfl (by rw [hs_len]; exact hlv) rfl) ?_
  rintro _ _ ⟨rfl, rfl⟩
  refine ⟨.inl (by simp), ?_⟩
  refine JM.done rfl ?_
  refine J.seq rfl ?_
  refine J.region rfl ?_
  refine JO.pur rfl rfl rfl (Pur.fieldAddr rfl) ?_
  refine JO.pur rfl rfl rfl (Pur.load rfl (CellIn.blk rfl)) ?_
  refine JO.nil ?_
  refine J.block rfl ?_
  refine J.seq rfl ?_
  refine J.region rfl ?_
  refine JO.pur rfl rfl rfl (Pur.eqlT rfl rfl) ?_
  refine JO.setv (u' := .bool false) 52 rfl (congrArg Value.bool (by decide)) ?_
  refine JO.pur rfl rfl rfl (Pur.assign rfl) ?_
  refine JO.nil ?_
  refine J.condF rfl rfl ?_
  refine J.seq rfl ?_
  refine J.region rfl ?_
  refine JO.pur rfl rfl rfl (Pur.eqlT rfl rfl) ?_
  refine JO.setv (u' := .bool true) 60 rfl (congrArg Value.bool (by decide)) ?_
  refine JO.pur rfl rfl rfl (Pur.assign rfl) ?_
  refine JO.nil ?_
  refine J.condT rfl rfl ?_
  refine J.seq rfl ?_
  refine J.region rfl ?_
  refine JO.pur rfl rfl rfl (Pur.move rfl) ?_
  refine JO.pur rfl rfl rfl (Pur.move rfl) ?_
  refine JO.pur rfl rfl rfl (Pur.nilCheck rfl) ?_
  refine JO.pur rfl rfl rfl (Pur.fieldAddr rfl) ?_
  refine JO.pur rfl rfl rfl (Pur.idxV (k := vi v) rfl rfl rfl (by omega)) ?_
  refine JO.pur rfl rfl rfl (Pur.fieldAddr rfl) ?_
  refine JO.effN rfl rfl (Eff.storeArrF (E := hE) (z := (((σ.alive.tail.length + [true].length : Nat) : Int), sShare)) (z' := (((σ.alive.tail.length + [true].length : Nat) : Int), sShared)) rfl rfl rfl rfl (by exact List.getElem?_set_self (by rw [hs_len]; exact hlv)) (.tail .head)) ?_
  rintro _ _ ⟨rfl, rfl⟩
  refine JO.nil ?_
  refine J.mask0 (n := 12) [11] rfl Try.mixed rfl (by kernel_rfl) ?_
  refine JM.take 0 (fun _ h => h) rfl (by kernel_rfl) rfl rfl rfl (m' := 1) rfl (Pur.move rfl) ?_
  refine JM.take 1 (fun _ h => h) rfl (by kernel_rfl) rfl rfl rfl (m' := 3) rfl (Pur.nilCheck rfl) ?_
  refine JM.take 2 (fun _ h => h) rfl (by kernel_rfl) rfl rfl rfl (m' := 7) rfl (Pur.fieldAddr rfl) ?_
  refine JM.take 3 (fun _ h => h) rfl (by kernel_rfl) rfl rfl rfl (m' := 15) rfl (Pur.load rfl (CellIn.arrT (n := 16) (k := 1) (by first | (rw [hs_len, hv8]; rfl) | (rw [List.length_set, hs_len, hv8]; rfl) | (simp only [List.length_set, hs_len, hv8]; rfl)) rfl)) ?_
  refine JM.take 4 (fun _ h => h) rfl (by kernel_rfl) rfl rfl rfl (m' := 31) rfl (Pur.move rfl) ?_
  refine JM.take 5 (fun _ h => h) rfl (by kernel_rfl) rfl rfl rfl (m' := 63) rfl (Pur.nilCheck rfl) ?_
  refine JM.take 6 (fun _ h => h) rfl (by kernel_rfl) rfl rfl rfl (m' := 127) rfl (Pur.fieldAddr rfl) ?_
  refine JM.take 7 (fun _ h => h) rfl (by kernel_rfl) rfl rfl rfl (m' := 255) rfl (Pur.load rfl (CellIn.arrT (n := 16) (k := 1) (by first | (rw [hs_len, hv8]; rfl) | (rw [List.length_set, hs_len, hv8]; rfl) | (simp only [List.length_set, hs_len, hv8]; rfl)) rfl)) ?_
  refine JM.take 8 (fun _ h => h) rfl (by kernel_rfl) rfl rfl rfl (m' := 511) rfl (Pur.len rfl) ?_
  refine JM.take 9 (fun _ h => h) rfl (by kernel_rfl) rfl rfl rfl (m' := 1023) rfl (Pur.sub rfl rfl (wr64 (by omega))) ?_
  refine JM.take 10 (fun _ h => h) rfl (by kernel_rfl) rfl rfl rfl (m' := 2047) rfl (Pur.idx rfl rfl rfl (by first | rfl | (simp; done) | omega) hk7 (by rw [List.length_append, hrl]; show σ.alive.length - 1 < σ.alive.length - 1 + 1; omega)) ?_
  refine JM.one (i := 11) (by kernel_rfl) ?_
  refine JMi.effN rfl rfl rfl (m' := 4095) rfl (Eff.storeS0 (E := intE) (z' := 1) rfl rfl rfl rfl (getD_get (d := 0) (by rw [List.length_append, hrl]; show σ.alive.length - 1 < σ.alive.length - 1 + 1; omega)) .head) ?_
  rintro _ _ ⟨rfl, rfl⟩
  refine ⟨.inl (by simp), ?_⟩
  refine JM.done rfl ?_
  refine J.inBlock ?_
  refine J.inBlock ?_
  refine J.fin rfl ?_
  have hdo : doS σ ⟨sShare, v, w⟩ = ⟨σ.vars.set (vi v) ⟨mannerOf sShare, σ.alive.length⟩, σ.alive ++ [true], σ.count ++ [1], σ.freed, σ.kind ++ [mannerOf sShare]⟩ := by unfold doS; simp only [makesB, fromB, n_sShare_sNew, n_sShare_sRaw, n_sShare_sUse, n_sShare_sFree, n_sShare_sDrop, n_sShare_sMove, n_sShare_sCopy, n_sShare_sBorrow, n_sShare_sEither, n_sShare_sOr, n_sShare_sEnd, decide_true, decide_false, Bool.or_true, Bool.or_false, Bool.false_or, Bool.true_or, if_true, if_false, Bool.false_eq_true, ite_true, ite_false, reduceIte]
  have ez : (((σ.alive.tail.length + [true].length : Nat) : Int), sShared) = hv ⟨mannerOf sShare, σ.alive.length⟩ := by unfold hv; dsimp only; rw [htl, show σ.alive.length - 1 + [true].length = σ.alive.length from (by show σ.alive.length - 1 + 1 = _; omega)]; rfl
  have e9 : rc ⟨σ.vars.set (vi v) ⟨mannerOf sShare, σ.alive.length⟩, σ.alive ++ [true], σ.count ++ [1], σ.freed, σ.kind ++ [mannerOf sShare]⟩ = rc σ ++ [1] := rc_snoc g.n1 g.cl g.kl
  refine ⟨_, _, ⟨a24, c24, a33, c33, af, cf, rfl, rfl⟩, rfl, fun h s => ?_⟩
  rw [hdo]
  rw [e9]
  try dsimp only
  rw [List.set_set] at s
  rw [ez, hs_set] at s
  rw [tail_snoc g.n1] at s
  rw [hset7] at s
  rw [show σ.alive.tail.length + [true].length = (σ.alive ++ [true]).tail.length by simp; omega] at s
  rw [show (rc σ ++ [1] : List Int).length = (rc σ).length + [(0 : Int)].length by simp]
  exact SubC.out h s

set_option maxRecDepth 10000 in
theorem rdoes_sRaw {L : List Asn} {b : Nat} {aa ac af : Option Addr} {ca cc cf : Nat} {σ : Sx} {v w : Str} (g : Ow.Good σ) (hr : wrongS σ ⟨sRaw, v, w⟩ = sNone) (hv' : isVarB v = true) (hw : isVarB w = false) :
    CallS Try.prog 51 [.pointer (some ⟨b, 0, none⟩), .agg #[.string sRaw, .string v, .string w]].toArray (blk b (arr hE (hs σ.vars) [.slice aa σ.alive.tail.length ca, .slice ac (rc σ).length cc, .slice af (fz σ.freed).length cf] 71) :: sl boolE aa ca σ.alive.tail :: sl intE ac cc (rc σ) :: sl intE af cf (fz σ.freed) :: L) (fun x M => ∃ aa' ca' ac' cc' af' cf', x = .tuple #[] ∧ M = blk b (arr hE (hs (doS σ ⟨sRaw, v, w⟩).vars) [.slice aa' (doS σ ⟨sRaw, v, w⟩).alive.tail.length ca', .slice ac' (rc (doS σ ⟨sRaw, v, w⟩)).length cc', .slice af' (fz (doS σ ⟨sRaw, v, w⟩).freed).length cf'] 71) :: sl boolE aa' ca' (doS σ ⟨sRaw, v, w⟩).alive.tail :: sl intE ac' cc' (rc (doS σ ⟨sRaw, v, w⟩)) :: sl intE af' cf' (fz (doS σ ⟨sRaw, v, w⟩).freed) :: L) := by
  have hv8 := g.v8
  have hn21 := g.n21
  have hn1 := g.n1
  have hfl := freed_le g
  have htl : σ.alive.tail.length = σ.alive.length - 1 := List.length_tail
  have hrl := rc_len σ
  have hv9 := vi_lt hv'
  have hR := wrong_none hr
  have hlv : vi v < σ.vars.length := by omega
  have hn20 := hR.w1 (show makesB sRaw = true by decide)
  have hk7 : (((rc σ).length + [(0 : Int)].length : Nat) : Int) - 1 = ((σ.alive.length - 1 : Nat) : Int) := by rw [hrl]; show ((σ.alive.length - 1 + 1 : Nat) : Int) - 1 = _; omega
  have hset7 : (rc σ ++ [(0 : Int)]).set (σ.alive.length - 1) 1 = rc σ ++ [1] := by rw [← hrl, List.set_append_right _ _ (Nat.le_refl _)]; simp
  refine CallS.ent ?_
  refine CallS.enter Try.func51 rfl rfl rfl rfl rfl ?_
  refine J.seq rfl ?_
  refine J.region rfl ?_
  refine JO.eff rfl rfl rfl (Eff.box (cs := [_, _, _]) rfl rfl) ?_
  rintro _ _ ⟨b3, rfl, rfl⟩
  refine JO.nil ?_
  refine J.seq rfl ?_
  refine J.quiet rfl Try.mixed (by kernel_rfl) ?_
  refine JQ.pur rfl rfl rfl (Pur.fieldAddr rfl) ?_
  refine JQ.pur rfl rfl rfl (Pur.load rfl (CellIn.blk rfl)) ?_
  refine JQ.callE rfl rfl rfl ((CallS.eqv (v' := .int .i64 (vi v : Int)) (index_r_ok v) (congrArg (Value.int .i64) (by unfold ixV; rw [if_pos hv'])))) ?_
  refine JQ.pur rfl rfl rfl (Pur.fieldAddr rfl) ?_
  refine JQ.pur rfl rfl rfl (Pur.load rfl (CellIn.blk rfl)) ?_
  refine JQ.callE rfl rfl rfl ((CallS.eqv (v' := .int .i64 (-1)) (index_r_ok w) (congrArg (Value.int .i64) (by unfold ixV; rw [if_neg (by rw [hw]; simp)])))) ?_
  refine JQ.pur rfl rfl rfl (Pur.assign rfl) ?_
  refine JQ.pur rfl rfl rfl (Pur.assign rfl) ?_
  refine JQ.nil ?_
  refine J.seq rfl ?_
  refine J.region rfl ?_
  refine JO.pur rfl rfl rfl (Pur.fieldAddr rfl) ?_
  refine JO.pur rfl rfl rfl (Pur.load rfl (CellIn.blk rfl)) ?_
  refine JO.nil ?_
  refine J.block rfl ?_
  refine J.seq rfl ?_
  refine J.seq rfl ?_
  refine J.region rfl ?_
  refine JO.pur rfl rfl rfl (Pur.eqlT rfl rfl) ?_
  refine JO.setv (u' := .bool false) 15 rfl (congrArg Value.bool (by decide)) ?_
  refine JO.pur rfl rfl rfl (Pur.assign rfl) ?_
  refine JO.nil ?_
  refine J.condF rfl rfl ?_
  refine J.seq rfl ?_
  refine J.region rfl ?_
  refine JO.pur rfl rfl rfl (Pur.eqlT rfl rfl) ?_
  refine JO.setv (u' := .bool false) 16 rfl (congrArg Value.bool (by decide)) ?_
  refine JO.pur rfl rfl rfl (Pur.assign rfl) ?_
  refine JO.nil ?_
  refine J.condF rfl rfl ?_
  refine J.region rfl ?_
  refine JO.pur rfl rfl rfl (Pur.eqlT rfl rfl) ?_
  refine JO.setv (u' := .bool true) 17 rfl (congrArg Value.bool (by decide)) ?_
  refine JO.pur rfl rfl rfl (Pur.assign rfl) ?_
  refine JO.nil ?_
  refine J.condT rfl rfl ?_
  refine J.seq rfl ?_
  refine J.region rfl ?_
  refine JO.pur rfl rfl rfl (Pur.move rfl) ?_
  refine JO.pur rfl rfl rfl (Pur.move rfl) ?_
  refine JO.pur rfl rfl rfl (Pur.nilCheck rfl) ?_
  refine JO.pur rfl rfl rfl (Pur.fieldAddr rfl) ?_
  refine JO.pur rfl rfl rfl (Pur.load rfl (CellIn.arrT (n := 16) (k := 0) (by first | (rw [hs_len, hv8]; rfl) | (rw [List.length_set, hs_len, hv8]; rfl) | (simp only [List.length_set, hs_len, hv8]; rfl)) rfl)) ?_
  refine JO.eff rfl rfl rfl (Eff.buildSlice boolE [true] rfl rfl rfl rfl rfl rfl rfl) ?_
  rintro _ _ ⟨b23, rfl, -, rfl⟩
  refine JO.eff rfl rfl rfl (Eff.append rfl rfl rfl rfl (by first | rfl | omega | (simp; done) | (simp; omega)) (by first | rfl | omega | (simp; done) | (simp; omega)) (by decide) (by first | omega | (simp only [List.length_cons, List.length_nil]; omega) | (simp; omega)) (by first | omega | (simp only [List.length_cons, List.length_nil]; omega) | (simp; omega)) (fun h => by cases h)) ?_
  rintro _ _ ⟨a24, c24, rfl, rfl⟩
  refine JO.pur rfl rfl rfl (Pur.nilCheck rfl) ?_
  refine JO.pur rfl rfl rfl (Pur.fieldAddr rfl) ?_
  refine JO.effN rfl rfl (Eff.storeArrT (n := 16) (k := 0) rfl rfl rfl (by first | (rw [hs_len, hv8]; rfl) | (rw [List.length_set, hs_len, hv8]; rfl) | (simp only [List.length_set, hs_len, hv8]; rfl)) .head) ?_
  rintro _ _ ⟨rfl, rfl⟩
  refine JO.nil ?_
  refine J.seq rfl ?_
  refine J.region rfl ?_
  refine JO.pur rfl rfl rfl (Pur.move rfl) ?_
  refine JO.pur rfl rfl rfl (Pur.move rfl) ?_
  refine JO.pur rfl rfl rfl (Pur.nilCheck rfl) ?_
  refine JO.pur rfl rfl rfl (Pur.fieldAddr rfl) ?_
  refine JO.pur rfl rfl rfl (Pur.load rfl (CellIn.arrT (n := 16) (k := 1) (by first | (rw [hs_len, hv8]; rfl) | (rw [List.length_set, hs_len, hv8]; rfl) | (simp only [List.length_set, hs_len, hv8]; rfl)) rfl)) ?_
  refine JO.eff rfl rfl rfl (Eff.buildSlice intE [0] rfl rfl rfl rfl rfl rfl rfl) ?_
  rintro _ _ ⟨b32, rfl, -, rfl⟩
  refine JO.eff rfl rfl rfl (Eff.append rfl rfl rfl rfl (by first | rfl | omega | (simp; done) | (simp; omega)) (by first | rfl | omega | (simp; done) | (simp; omega)) (by decide) (by first | omega | (simp only [List.length_cons, List.length_nil]; omega) | (simp; omega)) (by first | omega | (simp only [List.length_cons, List.length_nil]; omega) | (simp; omega)) (fun h => by cases h)) ?_
  rintro _ _ ⟨a33, c33, rfl, rfl⟩
  refine JO.pur rfl rfl rfl (Pur.nilCheck rfl) ?_
  refine JO.pur rfl rfl rfl (Pur.fieldAddr rfl) ?_
  refine JO.effN rfl rfl (Eff.storeArrT (n := 16) (k := 1) rfl rfl rfl (by first | (rw [hs_len, hv8]; rfl) | (rw [List.length_set, hs_len, hv8]; rfl) | (simp only [List.length_set, hs_len, hv8]; rfl)) (.tail .head)) ?_
  rintro _ _ ⟨rfl, rfl⟩
  refine JO.nil ?_
  refine J.seq rfl ?_
  refine J.mask0 (n := 14) [13] rfl Try.mixed rfl (by kernel_rfl) ?_
  refine JM.take 0 (fun _ h => h) rfl (by kernel_rfl) rfl rfl rfl (m' := 1) rfl (Pur.move rfl) ?_
  refine JM.take 1 (fun _ h => h) rfl (by kernel_rfl) rfl rfl rfl (m' := 3) rfl (Pur.move rfl) ?_
  refine JM.take 2 (fun _ h => h) rfl (by kernel_rfl) rfl rfl rfl (m' := 7) rfl (Pur.move rfl) ?_
  refine JM.take 3 (fun _ h => h) rfl (by kernel_rfl) rfl rfl rfl (m' := 15) rfl (Pur.nilCheck rfl) ?_
  refine JM.take 4 (fun _ h => h) rfl (by kernel_rfl) rfl rfl rfl (m' := 31) rfl (Pur.fieldAddr rfl) ?_
  refine JM.take 5 (fun _ h => h) rfl (by kernel_rfl) rfl rfl rfl (m' := 63) rfl (Pur.load rfl (CellIn.arrT (n := 16) (k := 0) (by first | (rw [hs_len, hv8]; rfl) | (rw [List.length_set, hs_len, hv8]; rfl) | (simp only [List.length_set, hs_len, hv8]; rfl)) rfl)) ?_
  refine JM.take 6 (fun _ h => h) rfl (by kernel_rfl) rfl rfl rfl (m' := 127) rfl (Pur.len rfl) ?_
  refine JM.take 7 (fun _ h => h) rfl (by kernel_rfl) rfl rfl rfl (m' := 255) rfl (Pur.fieldAddr rfl) ?_
  refine JM.take 8 (fun _ h => h) rfl (by kernel_rfl) rfl rfl rfl (m' := 511) rfl (Pur.load rfl (CellIn.blk rfl)) ?_
  refine JM.take 9 (fun _ h => h) rfl (by kernel_rfl) rfl rfl rfl (m' := 1023) rfl (Pur.build (cs := [_, _]) rfl rfl) ?_
  refine JM.take 10 (fun _ h => h) rfl (by kernel_rfl) rfl rfl rfl (m' := 2047) rfl (Pur.nilCheck rfl) ?_
  refine JM.take 11 (fun _ h => h) rfl (by kernel_rfl) rfl rfl rfl (m' := 4095) rfl (Pur.fieldAddr rfl) ?_
  refine JM.take 12 (fun _ h => h) rfl (by kernel_rfl) rfl rfl rfl (m' := 8191) rfl (Pur.idxV (k := vi v) rfl rfl rfl (by omega)) ?_
  refine JM.one (i := 13) (by kernel_rfl) ?_
  refine JMi.effN rfl rfl rfl (m' := 16383) rfl (Eff.storeArr (E := hE) (z' := (((σ.alive.tail.length + [true].length : Nat) : Int), sRaw)) rfl rfl rfl rfl (by rw [hs_len]; exact hlv) rfl) ?_
  rintro _ _ ⟨rfl, rfl⟩
  refine ⟨.inl (by simp), ?_⟩
  refine JM.done rfl ?_
  refine J.seq rfl ?_
  refine J.region rfl ?_
  refine JO.pur rfl rfl rfl (Pur.fieldAddr rfl) ?_
  refine JO.pur rfl rfl rfl (Pur.load rfl (CellIn.blk rfl)) ?_
  refine JO.nil ?_
  refine J.block rfl ?_
  refine J.seq rfl ?_
  refine J.region rfl ?_
  refine JO.pur rfl rfl rfl (Pur.eqlT rfl rfl) ?_
  refine JO.setv (u' := .bool false) 52 rfl (congrArg Value.bool (by decide)) ?_
  refine JO.pur rfl rfl rfl (Pur.assign rfl) ?_
  refine JO.nil ?_
  refine J.condF rfl rfl ?_
  refine J.seq rfl ?_
  refine J.region rfl ?_
  refine JO.pur rfl rfl rfl (Pur.eqlT rfl rfl) ?_
  refine JO.setv (u' := .bool false) 60 rfl (congrArg Value.bool (by decide)) ?_
  refine JO.pur rfl rfl rfl (Pur.assign rfl) ?_
  refine JO.nil ?_
  refine J.condF rfl rfl ?_
  refine J.skip rfl ?_
  refine J.inBlock ?_
  refine J.inBlock ?_
  refine J.fin rfl ?_
  have hdo : doS σ ⟨sRaw, v, w⟩ = ⟨σ.vars.set (vi v) ⟨mannerOf sRaw, σ.alive.length⟩, σ.alive ++ [true], σ.count ++ [1], σ.freed, σ.kind ++ [mannerOf sRaw]⟩ := by unfold doS; simp only [makesB, fromB, n_sRaw_sNew, n_sRaw_sShare, n_sRaw_sUse, n_sRaw_sFree, n_sRaw_sDrop, n_sRaw_sMove, n_sRaw_sCopy, n_sRaw_sBorrow, n_sRaw_sEither, n_sRaw_sOr, n_sRaw_sEnd, decide_true, decide_false, Bool.or_true, Bool.or_false, Bool.false_or, Bool.true_or, if_true, if_false, Bool.false_eq_true, ite_true, ite_false, reduceIte]
  have ez : (((σ.alive.tail.length + [true].length : Nat) : Int), sRaw) = hv ⟨mannerOf sRaw, σ.alive.length⟩ := by unfold hv; dsimp only; rw [htl, show σ.alive.length - 1 + [true].length = σ.alive.length from (by show σ.alive.length - 1 + 1 = _; omega)]; rfl
  have e9 : rc ⟨σ.vars.set (vi v) ⟨mannerOf sRaw, σ.alive.length⟩, σ.alive ++ [true], σ.count ++ [1], σ.freed, σ.kind ++ [mannerOf sRaw]⟩ = rc σ ++ [0] := rc_snoc g.n1 g.cl g.kl
  refine ⟨_, _, ⟨a24, c24, a33, c33, af, cf, rfl, rfl⟩, rfl, fun h s => ?_⟩
  rw [hdo]
  rw [e9]
  try dsimp only
  rw [ez, hs_set] at s
  rw [tail_snoc g.n1] at s
  rw [show σ.alive.tail.length + [true].length = (σ.alive ++ [true]).tail.length by simp; omega] at s
  rw [show (rc σ ++ [0] : List Int).length = (rc σ).length + [(0 : Int)].length by simp]
  exact SubC.out h s

set_option maxRecDepth 10000 in
theorem rdoes_sUse {L : List Asn} {b : Nat} {aa ac af : Option Addr} {ca cc cf : Nat} {σ : Sx} {v w : Str} (g : Ow.Good σ) (hr : wrongS σ ⟨sUse, v, w⟩ = sNone) (hv' : isVarB v = true) (hw : isVarB w = false) :
    CallS Try.prog 51 [.pointer (some ⟨b, 0, none⟩), .agg #[.string sUse, .string v, .string w]].toArray (blk b (arr hE (hs σ.vars) [.slice aa σ.alive.tail.length ca, .slice ac (rc σ).length cc, .slice af (fz σ.freed).length cf] 71) :: sl boolE aa ca σ.alive.tail :: sl intE ac cc (rc σ) :: sl intE af cf (fz σ.freed) :: L) (fun x M => ∃ aa' ca' ac' cc' af' cf', x = .tuple #[] ∧ M = blk b (arr hE (hs (doS σ ⟨sUse, v, w⟩).vars) [.slice aa' (doS σ ⟨sUse, v, w⟩).alive.tail.length ca', .slice ac' (rc (doS σ ⟨sUse, v, w⟩)).length cc', .slice af' (fz (doS σ ⟨sUse, v, w⟩).freed).length cf'] 71) :: sl boolE aa' ca' (doS σ ⟨sUse, v, w⟩).alive.tail :: sl intE ac' cc' (rc (doS σ ⟨sUse, v, w⟩)) :: sl intE af' cf' (fz (doS σ ⟨sUse, v, w⟩).freed) :: L) := by
  have hv8 := g.v8
  have hn21 := g.n21
  have hn1 := g.n1
  have hfl := freed_le g
  have htl : σ.alive.tail.length = σ.alive.length - 1 := List.length_tail
  have hrl := rc_len σ
  have hv9 := vi_lt hv'
  have hR := wrong_none hr
  have hlv : vi v < σ.vars.length := by omega
  refine CallS.ent ?_
  refine CallS.enter Try.func51 rfl rfl rfl rfl rfl ?_
  refine J.seq rfl ?_
  refine J.region rfl ?_
  refine JO.eff rfl rfl rfl (Eff.box (cs := [_, _, _]) rfl rfl) ?_
  rintro _ _ ⟨b3, rfl, rfl⟩
  refine JO.nil ?_
  refine J.seq rfl ?_
  refine J.quiet rfl Try.mixed (by kernel_rfl) ?_
  refine JQ.pur rfl rfl rfl (Pur.fieldAddr rfl) ?_
  refine JQ.pur rfl rfl rfl (Pur.load rfl (CellIn.blk rfl)) ?_
  refine JQ.callE rfl rfl rfl ((CallS.eqv (v' := .int .i64 (vi v : Int)) (index_r_ok v) (congrArg (Value.int .i64) (by unfold ixV; rw [if_pos hv'])))) ?_
  refine JQ.pur rfl rfl rfl (Pur.fieldAddr rfl) ?_
  refine JQ.pur rfl rfl rfl (Pur.load rfl (CellIn.blk rfl)) ?_
  refine JQ.callE rfl rfl rfl ((CallS.eqv (v' := .int .i64 (-1)) (index_r_ok w) (congrArg (Value.int .i64) (by unfold ixV; rw [if_neg (by rw [hw]; simp)])))) ?_
  refine JQ.pur rfl rfl rfl (Pur.assign rfl) ?_
  refine JQ.pur rfl rfl rfl (Pur.assign rfl) ?_
  refine JQ.nil ?_
  refine J.seq rfl ?_
  refine J.region rfl ?_
  refine JO.pur rfl rfl rfl (Pur.fieldAddr rfl) ?_
  refine JO.pur rfl rfl rfl (Pur.load rfl (CellIn.blk rfl)) ?_
  refine JO.nil ?_
  refine J.block rfl ?_
  refine J.seq rfl ?_
  refine J.seq rfl ?_
  refine J.region rfl ?_
  refine JO.pur rfl rfl rfl (Pur.eqlT rfl rfl) ?_
  refine JO.setv (u' := .bool false) 15 rfl (congrArg Value.bool (by decide)) ?_
  refine JO.pur rfl rfl rfl (Pur.assign rfl) ?_
  refine JO.nil ?_
  refine J.condF rfl rfl ?_
  refine J.seq rfl ?_
  refine J.region rfl ?_
  refine JO.pur rfl rfl rfl (Pur.eqlT rfl rfl) ?_
  refine JO.setv (u' := .bool false) 16 rfl (congrArg Value.bool (by decide)) ?_
  refine JO.pur rfl rfl rfl (Pur.assign rfl) ?_
  refine JO.nil ?_
  refine J.condF rfl rfl ?_
  refine J.region rfl ?_
  refine JO.pur rfl rfl rfl (Pur.eqlT rfl rfl) ?_
  refine JO.setv (u' := .bool false) 17 rfl (congrArg Value.bool (by decide)) ?_
  refine JO.pur rfl rfl rfl (Pur.assign rfl) ?_
  refine JO.nil ?_
  refine J.condF rfl rfl ?_
  refine J.seq rfl ?_
  refine J.region rfl ?_
  refine JO.pur rfl rfl rfl (Pur.eqlT rfl rfl) ?_
  refine JO.setv (u' := .bool false) 79 rfl (congrArg Value.bool (by decide)) ?_
  refine JO.pur rfl rfl rfl (Pur.assign rfl) ?_
  refine JO.nil ?_
  refine J.condF rfl rfl ?_
  refine J.seq rfl ?_
  refine J.region rfl ?_
  refine JO.pur rfl rfl rfl (Pur.eqlT rfl rfl) ?_
  refine JO.setv (u' := .bool false) 98 rfl (congrArg Value.bool (by decide)) ?_
  refine JO.pur rfl rfl rfl (Pur.assign rfl) ?_
  refine JO.nil ?_
  refine J.condF rfl rfl ?_
  refine J.seq rfl ?_
  refine J.region rfl ?_
  refine JO.pur rfl rfl rfl (Pur.eqlT rfl rfl) ?_
  refine JO.setv (u' := .bool false) 135 rfl (congrArg Value.bool (by decide)) ?_
  refine JO.pur rfl rfl rfl (Pur.assign rfl) ?_
  refine JO.nil ?_
  refine J.condF rfl rfl ?_
  refine J.seq rfl ?_
  refine J.region rfl ?_
  refine JO.pur rfl rfl rfl (Pur.eqlT rfl rfl) ?_
  refine JO.setv (u' := .bool false) 150 rfl (congrArg Value.bool (by decide)) ?_
  refine JO.pur rfl rfl rfl (Pur.assign rfl) ?_
  refine JO.nil ?_
  refine J.condF rfl rfl ?_
  refine J.seq rfl ?_
  refine J.region rfl ?_
  refine JO.pur rfl rfl rfl (Pur.eqlT rfl rfl) ?_
  refine JO.setv (u' := .bool false) 167 rfl (congrArg Value.bool (by decide)) ?_
  refine JO.pur rfl rfl rfl (Pur.assign rfl) ?_
  refine JO.nil ?_
  refine J.condF rfl rfl ?_
  refine J.skip rfl ?_
  refine J.inBlock ?_
  refine J.fin rfl ?_
  have hdo : doS σ ⟨sUse, v, w⟩ = σ := by unfold doS; simp only [makesB, fromB, n_sUse_sNew, n_sUse_sShare, n_sUse_sRaw, n_sUse_sFree, n_sUse_sDrop, n_sUse_sMove, n_sUse_sCopy, n_sUse_sBorrow, n_sUse_sEither, n_sUse_sOr, n_sUse_sEnd, decide_true, decide_false, Bool.or_true, Bool.or_false, Bool.false_or, Bool.true_or, if_true, if_false, Bool.false_eq_true, ite_true, ite_false, reduceIte]
  refine ⟨_, _, ⟨aa, ca, ac, cc, af, cf, rfl, rfl⟩, rfl, fun h s => ?_⟩
  rw [hdo]
  try dsimp only
  exact SubC.out h s

set_option maxRecDepth 10000 in
theorem rdoes_sFree {L : List Asn} {b : Nat} {aa ac af : Option Addr} {ca cc cf : Nat} {σ : Sx} {v w : Str} (g : Ow.Good σ) (hr : wrongS σ ⟨sFree, v, w⟩ = sNone) (hv' : isVarB v = true) (hw : isVarB w = false) :
    CallS Try.prog 51 [.pointer (some ⟨b, 0, none⟩), .agg #[.string sFree, .string v, .string w]].toArray (blk b (arr hE (hs σ.vars) [.slice aa σ.alive.tail.length ca, .slice ac (rc σ).length cc, .slice af (fz σ.freed).length cf] 71) :: sl boolE aa ca σ.alive.tail :: sl intE ac cc (rc σ) :: sl intE af cf (fz σ.freed) :: L) (fun x M => ∃ aa' ca' ac' cc' af' cf', x = .tuple #[] ∧ M = blk b (arr hE (hs (doS σ ⟨sFree, v, w⟩).vars) [.slice aa' (doS σ ⟨sFree, v, w⟩).alive.tail.length ca', .slice ac' (rc (doS σ ⟨sFree, v, w⟩)).length cc', .slice af' (fz (doS σ ⟨sFree, v, w⟩).freed).length cf'] 71) :: sl boolE aa' ca' (doS σ ⟨sFree, v, w⟩).alive.tail :: sl intE ac' cc' (rc (doS σ ⟨sFree, v, w⟩)) :: sl intE af' cf' (fz (doS σ ⟨sFree, v, w⟩).freed) :: L) := by
  have hv8 := g.v8
  have hn21 := g.n21
  have hn1 := g.n1
  have hfl := freed_le g
  have htl : σ.alive.tail.length = σ.alive.length - 1 := List.length_tail
  have hrl := rc_len σ
  have hv9 := vi_lt hv'
  have hR := wrong_none hr
  have hlv : vi v < σ.vars.length := by omega
  have hy0 : (vr σ (vi v)).m ≠ 0 := by have := hR.w3 (.inr (.inr rfl)); simpa [yv, fromB, n_sFree_sMove, n_sFree_sCopy, n_sFree_sBorrow] using this
  obtain ⟨ho1, ho2⟩ := g.obj _ hy0
  refine CallS.ent ?_
  refine CallS.enter Try.func51 rfl rfl rfl rfl rfl ?_
  refine J.seq rfl ?_
  refine J.region rfl ?_
  refine JO.eff rfl rfl rfl (Eff.box (cs := [_, _, _]) rfl rfl) ?_
  rintro _ _ ⟨b3, rfl, rfl⟩
  refine JO.nil ?_
  refine J.seq rfl ?_
  refine J.quiet rfl Try.mixed (by kernel_rfl) ?_
  refine JQ.pur rfl rfl rfl (Pur.fieldAddr rfl) ?_
  refine JQ.pur rfl rfl rfl (Pur.load rfl (CellIn.blk rfl)) ?_
  refine JQ.callE rfl rfl rfl ((CallS.eqv (v' := .int .i64 (vi v : Int)) (index_r_ok v) (congrArg (Value.int .i64) (by unfold ixV; rw [if_pos hv'])))) ?_
  refine JQ.pur rfl rfl rfl (Pur.fieldAddr rfl) ?_
  refine JQ.pur rfl rfl rfl (Pur.load rfl (CellIn.blk rfl)) ?_
  refine JQ.callE rfl rfl rfl ((CallS.eqv (v' := .int .i64 (-1)) (index_r_ok w) (congrArg (Value.int .i64) (by unfold ixV; rw [if_neg (by rw [hw]; simp)])))) ?_
  refine JQ.pur rfl rfl rfl (Pur.assign rfl) ?_
  refine JQ.pur rfl rfl rfl (Pur.assign rfl) ?_
  refine JQ.nil ?_
  refine J.seq rfl ?_
  refine J.region rfl ?_
  refine JO.pur rfl rfl rfl (Pur.fieldAddr rfl) ?_
  refine JO.pur rfl rfl rfl (Pur.load rfl (CellIn.blk rfl)) ?_
  refine JO.nil ?_
  refine J.block rfl ?_
  refine J.seq rfl ?_
  refine J.seq rfl ?_
  refine J.region rfl ?_
  refine JO.pur rfl rfl rfl (Pur.eqlT rfl rfl) ?_
  refine JO.setv (u' := .bool false) 15 rfl (congrArg Value.bool (by decide)) ?_
  refine JO.pur rfl rfl rfl (Pur.assign rfl) ?_
  refine JO.nil ?_
  refine J.condF rfl rfl ?_
  refine J.seq rfl ?_
  refine J.region rfl ?_
  refine JO.pur rfl rfl rfl (Pur.eqlT rfl rfl) ?_
  refine JO.setv (u' := .bool false) 16 rfl (congrArg Value.bool (by decide)) ?_
  refine JO.pur rfl rfl rfl (Pur.assign rfl) ?_
  refine JO.nil ?_
  refine J.condF rfl rfl ?_
  refine J.region rfl ?_
  refine JO.pur rfl rfl rfl (Pur.eqlT rfl rfl) ?_
  refine JO.setv (u' := .bool false) 17 rfl (congrArg Value.bool (by decide)) ?_
  refine JO.pur rfl rfl rfl (Pur.assign rfl) ?_
  refine JO.nil ?_
  refine J.condF rfl rfl ?_
  refine J.seq rfl ?_
  refine J.region rfl ?_
  refine JO.pur rfl rfl rfl (Pur.eqlT rfl rfl) ?_
  refine JO.setv (u' := .bool false) 79 rfl (congrArg Value.bool (by decide)) ?_
  refine JO.pur rfl rfl rfl (Pur.assign rfl) ?_
  refine JO.nil ?_
  refine J.condF rfl rfl ?_
  refine J.seq rfl ?_
  refine J.region rfl ?_
  refine JO.pur rfl rfl rfl (Pur.eqlT rfl rfl) ?_
  refine JO.setv (u' := .bool false) 98 rfl (congrArg Value.bool (by decide)) ?_
  refine JO.pur rfl rfl rfl (Pur.assign rfl) ?_
  refine JO.nil ?_
  refine J.condF rfl rfl ?_
  refine J.seq rfl ?_
  refine J.region rfl ?_
  refine JO.pur rfl rfl rfl (Pur.eqlT rfl rfl) ?_
  refine JO.setv (u' := .bool false) 135 rfl (congrArg Value.bool (by decide)) ?_
  refine JO.pur rfl rfl rfl (Pur.assign rfl) ?_
  refine JO.nil ?_
  refine J.condF rfl rfl ?_
  refine J.seq rfl ?_
  refine J.region rfl ?_
  refine JO.pur rfl rfl rfl (Pur.eqlT rfl rfl) ?_
  refine JO.setv (u' := .bool true) 150 rfl (congrArg Value.bool (by decide)) ?_
  refine JO.pur rfl rfl rfl (Pur.assign rfl) ?_
  refine JO.nil ?_
  refine J.condT rfl rfl ?_
  refine J.seq rfl ?_
  refine J.region rfl ?_
  refine JO.pur rfl rfl rfl (Pur.move rfl) ?_
  refine JO.pur rfl rfl rfl (Pur.move rfl) ?_
  refine JO.pur rfl rfl rfl (Pur.move rfl) ?_
  refine JO.pur rfl rfl rfl (Pur.nilCheck rfl) ?_
  refine JO.pur rfl rfl rfl (Pur.fieldAddr rfl) ?_
  refine JO.pur rfl rfl rfl (Pur.idxV (k := vi v) rfl rfl rfl (by omega)) ?_
  refine JO.pur rfl rfl rfl (Pur.fieldAddr rfl) ?_
  refine JO.pur rfl rfl rfl (Pur.load rfl (CellIn.arr (E := hE) rfl (hs_get hlv) rfl)) ?_
  refine JO.eff rfl rfl rfl (Eff.call rfl (CallS.pre (rfree_ok (aa := aa) (ca := ca) (ac := ac) (cc := cc) (af := af) (cf := cf) (vs := hs σ.vars) (al := σ.alive.tail) (co := rc σ) (fr := σ.freed) (n := (vr σ (vi v)).o) (L := blk b3 (.cells #[.string sFree, .string v, .string w] 46) :: L) (by rw [hs_len]; exact hv8) ho1 (by rw [htl]; omega) (by rw [htl]; omega) (by omega)) SubC.out)) ?_
  rintro _ _ ⟨aa1, ca1, ac1, cc1, af1, cf1, rfl, rfl⟩
  refine JO.nil ?_
  refine J.region rfl ?_
  refine JO.pur rfl rfl rfl (Pur.move rfl) ?_
  refine JO.pur rfl rfl rfl (Pur.move rfl) ?_
  refine JO.pur rfl rfl rfl (Pur.build (cs := [_, _]) rfl rfl) ?_
  refine JO.pur rfl rfl rfl (Pur.nilCheck rfl) ?_
  refine JO.pur rfl rfl rfl (Pur.fieldAddr rfl) ?_
  refine JO.pur rfl rfl rfl (Pur.idxV (k := vi v) rfl rfl rfl (by omega)) ?_
  refine JO.effN rfl rfl (Eff.storeArr (E := hE) (z' := (hv ⟨0, 0⟩)) rfl rfl rfl rfl (by rw [hs_len]; exact hlv) rfl) ?_
  rintro _ _ ⟨rfl, rfl⟩
  refine JO.nil ?_
  refine J.inBlock ?_
  refine J.fin rfl ?_
  have hdo : doS σ ⟨sFree, v, w⟩ = ⟨σ.vars.set (vi v) ⟨0, 0⟩, σ.alive.set (vr σ (vi v)).o false, σ.count, σ.freed ++ [(vr σ (vi v)).o], σ.kind⟩ := by unfold doS; simp only [makesB, fromB, n_sFree_sNew, n_sFree_sShare, n_sFree_sRaw, n_sFree_sUse, n_sFree_sDrop, n_sFree_sMove, n_sFree_sCopy, n_sFree_sBorrow, n_sFree_sEither, n_sFree_sOr, n_sFree_sEnd, decide_true, decide_false, Bool.or_true, Bool.or_false, Bool.false_or, Bool.true_or, if_true, if_false, Bool.false_eq_true, ite_true, ite_false, reduceIte]; rfl
  have e9 : rc ⟨σ.vars.set (vi v) ⟨0, 0⟩, σ.alive.set (vr σ (vi v)).o false, σ.count, σ.freed ++ [(vr σ (vi v)).o], σ.kind⟩ = rc σ := rc_same (by simp) rfl rfl
  refine ⟨_, _, ⟨aa1, ca1, ac1, cc1, af1, cf1, rfl, rfl⟩, rfl, fun h s => ?_⟩
  rw [hdo]
  rw [e9]
  try dsimp only
  rw [hs_set] at s
  rw [← tail_set ho1]
  exact SubC.out h s

set_option maxRecDepth 10000 in
theorem rdoes_sDrop {L : List Asn} {b : Nat} {aa ac af : Option Addr} {ca cc cf : Nat} {σ : Sx} {v w : Str} (g : Ow.Good σ) (hr : wrongS σ ⟨sDrop, v, w⟩ = sNone) (hv' : isVarB v = true) (hw : isVarB w = false) :
    CallS Try.prog 51 [.pointer (some ⟨b, 0, none⟩), .agg #[.string sDrop, .string v, .string w]].toArray (blk b (arr hE (hs σ.vars) [.slice aa σ.alive.tail.length ca, .slice ac (rc σ).length cc, .slice af (fz σ.freed).length cf] 71) :: sl boolE aa ca σ.alive.tail :: sl intE ac cc (rc σ) :: sl intE af cf (fz σ.freed) :: L) (fun x M => ∃ aa' ca' ac' cc' af' cf', x = .tuple #[] ∧ M = blk b (arr hE (hs (doS σ ⟨sDrop, v, w⟩).vars) [.slice aa' (doS σ ⟨sDrop, v, w⟩).alive.tail.length ca', .slice ac' (rc (doS σ ⟨sDrop, v, w⟩)).length cc', .slice af' (fz (doS σ ⟨sDrop, v, w⟩).freed).length cf'] 71) :: sl boolE aa' ca' (doS σ ⟨sDrop, v, w⟩).alive.tail :: sl intE ac' cc' (rc (doS σ ⟨sDrop, v, w⟩)) :: sl intE af' cf' (fz (doS σ ⟨sDrop, v, w⟩).freed) :: L) := by
  have hv8 := g.v8
  have hn21 := g.n21
  have hn1 := g.n1
  have hfl := freed_le g
  have htl : σ.alive.tail.length = σ.alive.length - 1 := List.length_tail
  have hrl := rc_len σ
  have hv9 := vi_lt hv'
  have hR := wrong_none hr
  have hlv : vi v < σ.vars.length := by omega
  refine CallS.ent ?_
  refine CallS.enter Try.func51 rfl rfl rfl rfl rfl ?_
  refine J.seq rfl ?_
  refine J.region rfl ?_
  refine JO.eff rfl rfl rfl (Eff.box (cs := [_, _, _]) rfl rfl) ?_
  rintro _ _ ⟨b3, rfl, rfl⟩
  refine JO.nil ?_
  refine J.seq rfl ?_
  refine J.quiet rfl Try.mixed (by kernel_rfl) ?_
  refine JQ.pur rfl rfl rfl (Pur.fieldAddr rfl) ?_
  refine JQ.pur rfl rfl rfl (Pur.load rfl (CellIn.blk rfl)) ?_
  refine JQ.callE rfl rfl rfl ((CallS.eqv (v' := .int .i64 (vi v : Int)) (index_r_ok v) (congrArg (Value.int .i64) (by unfold ixV; rw [if_pos hv'])))) ?_
  refine JQ.pur rfl rfl rfl (Pur.fieldAddr rfl) ?_
  refine JQ.pur rfl rfl rfl (Pur.load rfl (CellIn.blk rfl)) ?_
  refine JQ.callE rfl rfl rfl ((CallS.eqv (v' := .int .i64 (-1)) (index_r_ok w) (congrArg (Value.int .i64) (by unfold ixV; rw [if_neg (by rw [hw]; simp)])))) ?_
  refine JQ.pur rfl rfl rfl (Pur.assign rfl) ?_
  refine JQ.pur rfl rfl rfl (Pur.assign rfl) ?_
  refine JQ.nil ?_
  refine J.seq rfl ?_
  refine J.region rfl ?_
  refine JO.pur rfl rfl rfl (Pur.fieldAddr rfl) ?_
  refine JO.pur rfl rfl rfl (Pur.load rfl (CellIn.blk rfl)) ?_
  refine JO.nil ?_
  refine J.block rfl ?_
  refine J.seq rfl ?_
  refine J.seq rfl ?_
  refine J.region rfl ?_
  refine JO.pur rfl rfl rfl (Pur.eqlT rfl rfl) ?_
  refine JO.setv (u' := .bool false) 15 rfl (congrArg Value.bool (by decide)) ?_
  refine JO.pur rfl rfl rfl (Pur.assign rfl) ?_
  refine JO.nil ?_
  refine J.condF rfl rfl ?_
  refine J.seq rfl ?_
  refine J.region rfl ?_
  refine JO.pur rfl rfl rfl (Pur.eqlT rfl rfl) ?_
  refine JO.setv (u' := .bool false) 16 rfl (congrArg Value.bool (by decide)) ?_
  refine JO.pur rfl rfl rfl (Pur.assign rfl) ?_
  refine JO.nil ?_
  refine J.condF rfl rfl ?_
  refine J.region rfl ?_
  refine JO.pur rfl rfl rfl (Pur.eqlT rfl rfl) ?_
  refine JO.setv (u' := .bool false) 17 rfl (congrArg Value.bool (by decide)) ?_
  refine JO.pur rfl rfl rfl (Pur.assign rfl) ?_
  refine JO.nil ?_
  refine J.condF rfl rfl ?_
  refine J.seq rfl ?_
  refine J.region rfl ?_
  refine JO.pur rfl rfl rfl (Pur.eqlT rfl rfl) ?_
  refine JO.setv (u' := .bool false) 79 rfl (congrArg Value.bool (by decide)) ?_
  refine JO.pur rfl rfl rfl (Pur.assign rfl) ?_
  refine JO.nil ?_
  refine J.condF rfl rfl ?_
  refine J.seq rfl ?_
  refine J.region rfl ?_
  refine JO.pur rfl rfl rfl (Pur.eqlT rfl rfl) ?_
  refine JO.setv (u' := .bool false) 98 rfl (congrArg Value.bool (by decide)) ?_
  refine JO.pur rfl rfl rfl (Pur.assign rfl) ?_
  refine JO.nil ?_
  refine J.condF rfl rfl ?_
  refine J.seq rfl ?_
  refine J.region rfl ?_
  refine JO.pur rfl rfl rfl (Pur.eqlT rfl rfl) ?_
  refine JO.setv (u' := .bool false) 135 rfl (congrArg Value.bool (by decide)) ?_
  refine JO.pur rfl rfl rfl (Pur.assign rfl) ?_
  refine JO.nil ?_
  refine J.condF rfl rfl ?_
  refine J.seq rfl ?_
  refine J.region rfl ?_
  refine JO.pur rfl rfl rfl (Pur.eqlT rfl rfl) ?_
  refine JO.setv (u' := .bool false) 150 rfl (congrArg Value.bool (by decide)) ?_
  refine JO.pur rfl rfl rfl (Pur.assign rfl) ?_
  refine JO.nil ?_
  refine J.condF rfl rfl ?_
  refine J.seq rfl ?_
  refine J.region rfl ?_
  refine JO.pur rfl rfl rfl (Pur.eqlT rfl rfl) ?_
  refine JO.setv (u' := .bool true) 167 rfl (congrArg Value.bool (by decide)) ?_
  refine JO.pur rfl rfl rfl (Pur.assign rfl) ?_
  refine JO.nil ?_
  refine J.condT rfl rfl ?_
  refine J.region rfl ?_
  refine JO.pur rfl rfl rfl (Pur.move rfl) ?_
  refine JO.pur rfl rfl rfl (Pur.move rfl) ?_
  refine JO.eff rfl rfl rfl (Eff.call rfl (CallS.pre (rdrop_ok (aa := aa) (ca := ca) (ac := ac) (cc := cc) (af := af) (cf := cf) (σ := σ) (i := vi v) (L := blk b3 (.cells #[.string sDrop, .string v, .string w] 46) :: L) g hv9) SubC.out)) ?_
  rintro _ _ ⟨aa1, ca1, ac1, cc1, af1, cf1, rfl, rfl⟩
  refine JO.nil ?_
  refine J.inBlock ?_
  refine J.fin rfl ?_
  have hdo : doS σ ⟨sDrop, v, w⟩ = dropS σ (vi v) := by unfold doS; simp only [makesB, fromB, n_sDrop_sNew, n_sDrop_sShare, n_sDrop_sRaw, n_sDrop_sUse, n_sDrop_sFree, n_sDrop_sMove, n_sDrop_sCopy, n_sDrop_sBorrow, n_sDrop_sEither, n_sDrop_sOr, n_sDrop_sEnd, decide_true, decide_false, Bool.or_true, Bool.or_false, Bool.false_or, Bool.true_or, if_true, if_false, Bool.false_eq_true, ite_true, ite_false, reduceIte]
  refine ⟨_, _, ⟨aa1, ca1, ac1, cc1, af1, cf1, rfl, rfl⟩, rfl, fun h s => ?_⟩
  rw [hdo]
  try dsimp only
  exact SubC.out h s

set_option maxRecDepth 10000 in
theorem rdoes_sMove {L : List Asn} {b : Nat} {aa ac af : Option Addr} {ca cc cf : Nat} {σ : Sx} {v w : Str} (g : Ow.Good σ) (hr : wrongS σ ⟨sMove, v, w⟩ = sNone) (hv' : isVarB v = true) (hw : isVarB w = true) :
    CallS Try.prog 51 [.pointer (some ⟨b, 0, none⟩), .agg #[.string sMove, .string v, .string w]].toArray (blk b (arr hE (hs σ.vars) [.slice aa σ.alive.tail.length ca, .slice ac (rc σ).length cc, .slice af (fz σ.freed).length cf] 71) :: sl boolE aa ca σ.alive.tail :: sl intE ac cc (rc σ) :: sl intE af cf (fz σ.freed) :: L) (fun x M => ∃ aa' ca' ac' cc' af' cf', x = .tuple #[] ∧ M = blk b (arr hE (hs (doS σ ⟨sMove, v, w⟩).vars) [.slice aa' (doS σ ⟨sMove, v, w⟩).alive.tail.length ca', .slice ac' (rc (doS σ ⟨sMove, v, w⟩)).length cc', .slice af' (fz (doS σ ⟨sMove, v, w⟩).freed).length cf'] 71) :: sl boolE aa' ca' (doS σ ⟨sMove, v, w⟩).alive.tail :: sl intE ac' cc' (rc (doS σ ⟨sMove, v, w⟩)) :: sl intE af' cf' (fz (doS σ ⟨sMove, v, w⟩).freed) :: L) := by
  have hv8 := g.v8
  have hn21 := g.n21
  have hn1 := g.n1
  have hfl := freed_le g
  have htl : σ.alive.tail.length = σ.alive.length - 1 := List.length_tail
  have hrl := rc_len σ
  have hv9 := vi_lt hv'
  have hR := wrong_none hr
  have hw9 := vi_lt hw
  have hlw : vi w < σ.vars.length := by omega
  have hlv : vi v < σ.vars.length := by omega
  have hvy : yv σ ⟨sMove, v, w⟩ = vr σ (vi w) := by unfold yv; rfl
  have hx0 : (vr σ (vi v)).m = 0 := hR.w2 (.inr (show fromB sMove = true by decide))
  have hy0 : (vr σ (vi w)).m ≠ 0 := by have := hR.w3 (.inl (show fromB sMove = true by decide)); rw [hvy] at this; exact this
  have hne : ¬ vi w = vi v := fun e => by rw [e] at hy0; exact hy0 hx0
  have hgw : ((hs σ.vars).set (vi v) (hv (vr σ (vi w))))[vi w]? = some (hv (vr σ (vi w))) := by rw [List.getElem?_set_ne (fun e => hne e.symm)]; exact hs_get hlw
  refine CallS.ent ?_
  refine CallS.enter Try.func51 rfl rfl rfl rfl rfl ?_
  refine J.seq rfl ?_
  refine J.region rfl ?_
  refine JO.eff rfl rfl rfl (Eff.box (cs := [_, _, _]) rfl rfl) ?_
  rintro _ _ ⟨b3, rfl, rfl⟩
  refine JO.nil ?_
  refine J.seq rfl ?_
  refine J.quiet rfl Try.mixed (by kernel_rfl) ?_
  refine JQ.pur rfl rfl rfl (Pur.fieldAddr rfl) ?_
  refine JQ.pur rfl rfl rfl (Pur.load rfl (CellIn.blk rfl)) ?_
  refine JQ.callE rfl rfl rfl ((CallS.eqv (v' := .int .i64 (vi v : Int)) (index_r_ok v) (congrArg (Value.int .i64) (by unfold ixV; rw [if_pos hv'])))) ?_
  refine JQ.pur rfl rfl rfl (Pur.fieldAddr rfl) ?_
  refine JQ.pur rfl rfl rfl (Pur.load rfl (CellIn.blk rfl)) ?_
  refine JQ.callE rfl rfl rfl ((CallS.eqv (v' := .int .i64 (vi w : Int)) (index_r_ok w) (congrArg (Value.int .i64) (by unfold ixV; rw [if_pos hw])))) ?_
  refine JQ.pur rfl rfl rfl (Pur.assign rfl) ?_
  refine JQ.pur rfl rfl rfl (Pur.assign rfl) ?_
  refine JQ.nil ?_
  refine J.seq rfl ?_
  refine J.region rfl ?_
  refine JO.pur rfl rfl rfl (Pur.fieldAddr rfl) ?_
  refine JO.pur rfl rfl rfl (Pur.load rfl (CellIn.blk rfl)) ?_
  refine JO.nil ?_
  refine J.block rfl ?_
  refine J.seq rfl ?_
  refine J.seq rfl ?_
  refine J.region rfl ?_
  refine JO.pur rfl rfl rfl (Pur.eqlT rfl rfl) ?_
  refine JO.setv (u' := .bool false) 15 rfl (congrArg Value.bool (by decide)) ?_
  refine JO.pur rfl rfl rfl (Pur.assign rfl) ?_
  refine JO.nil ?_
  refine J.condF rfl rfl ?_
  refine J.seq rfl ?_
  refine J.region rfl ?_
  refine JO.pur rfl rfl rfl (Pur.eqlT rfl rfl) ?_
  refine JO.setv (u' := .bool false) 16 rfl (congrArg Value.bool (by decide)) ?_
  refine JO.pur rfl rfl rfl (Pur.assign rfl) ?_
  refine JO.nil ?_
  refine J.condF rfl rfl ?_
  refine J.region rfl ?_
  refine JO.pur rfl rfl rfl (Pur.eqlT rfl rfl) ?_
  refine JO.setv (u' := .bool false) 17 rfl (congrArg Value.bool (by decide)) ?_
  refine JO.pur rfl rfl rfl (Pur.assign rfl) ?_
  refine JO.nil ?_
  refine J.condF rfl rfl ?_
  refine J.seq rfl ?_
  refine J.region rfl ?_
  refine JO.pur rfl rfl rfl (Pur.eqlT rfl rfl) ?_
  refine JO.setv (u' := .bool true) 79 rfl (congrArg Value.bool (by decide)) ?_
  refine JO.pur rfl rfl rfl (Pur.assign rfl) ?_
  refine JO.nil ?_
  refine J.condT rfl rfl ?_
  have hkA : ∀ h, Sat h (blk b3 (.cells #[.string sMove, .string v, .string w] 46) :: blk b (arr hE (hs σ.vars) [.slice aa σ.alive.tail.length ca, .slice ac (rc σ).length cc, .slice af (fz σ.freed).length cf] 71) :: sl boolE aa ca σ.alive.tail :: sl intE ac cc (rc σ) :: sl intE af cf (fz σ.freed) :: L) → Sat h (blk b3 (.cells #[.string sMove, .string v, .string w] 46) :: (fun h => ∃ vs : List (Int × Str), vs[vi w]? = some (hv (vr σ (vi w))) ∧ blk b (arr hE vs [.slice aa σ.alive.tail.length ca, .slice ac (rc σ).length cc, .slice af (fz σ.freed).length cf] 71) h) :: sl boolE aa ca σ.alive.tail :: sl intE ac cc (rc σ) :: sl intE af cf (fz σ.freed) :: L) := fun h s => s.cons_imp (fun _ q => q) (fun _ q => q.cons_imp (fun _ r => ⟨_, hs_get hlw, r⟩) (fun _ r => r))
  have hkB : ∀ h, Sat h (blk b3 (.cells #[.string sMove, .string v, .string w] 46) :: blk b (arr hE ((hs σ.vars).set (vi v) (hv (vr σ (vi w)))) [.slice aa σ.alive.tail.length ca, .slice ac (rc σ).length cc, .slice af (fz σ.freed).length cf] 71) :: sl boolE aa ca σ.alive.tail :: sl intE ac cc (rc σ) :: sl intE af cf (fz σ.freed) :: L) → Sat h (blk b3 (.cells #[.string sMove, .string v, .string w] 46) :: (fun h => ∃ vs : List (Int × Str), vs[vi w]? = some (hv (vr σ (vi w))) ∧ blk b (arr hE vs [.slice aa σ.alive.tail.length ca, .slice ac (rc σ).length cc, .slice af (fz σ.freed).length cf] 71) h) :: sl boolE aa ca σ.alive.tail :: sl intE ac cc (rc σ) :: sl intE af cf (fz σ.freed) :: L) := fun h s => s.cons_imp (fun _ q => q) (fun _ q => q.cons_imp (fun _ r => ⟨_, hgw, r⟩) (fun _ r => r))
  have hcw : CellsIn (blk b3 (.cells #[.string sMove, .string v, .string w] 46) :: (fun h => ∃ vs : List (Int × Str), vs[vi w]? = some (hv (vr σ (vi w))) ∧ blk b (arr hE vs [.slice aa σ.alive.tail.length ca, .slice ac (rc σ).length cc, .slice af (fz σ.freed).length cf] 71) h) :: sl boolE aa ca σ.alive.tail :: sl intE ac cc (rc σ) :: sl intE af cf (fz σ.freed) :: L) ⟨b, vi w * 2, none⟩ (hE.enc (hv (vr σ (vi w)))) := fun h s => by
    obtain ⟨vs, q1⟩ := Sat.ex s.tail
    obtain ⟨q2, q3⟩ := Sat.pure q1
    exact CellsIn.arr (E := hE) (m := 2) rfl q2 h q3
  refine J.mask (n := 19) [18] (blk b3 (.cells #[.string sMove, .string v, .string w] 46) :: (fun h => ∃ vs : List (Int × Str), vs[vi w]? = some (hv (vr σ (vi w))) ∧ blk b (arr hE vs [.slice aa σ.alive.tail.length ca, .slice ac (rc σ).length cc, .slice af (fz σ.freed).length cf] 71) h) :: sl boolE aa ca σ.alive.tail :: sl intE ac cc (rc σ) :: sl intE af cf (fz σ.freed) :: L) rfl Try.mixed rfl (by kernel_rfl) ?_
  refine JM.take 0 hkA rfl (by kernel_rfl) rfl rfl rfl (m' := 1) rfl (Pur.move rfl) ?_
  refine JM.take 1 hkA rfl (by kernel_rfl) rfl rfl rfl (m' := 3) rfl (Pur.move rfl) ?_
  refine JM.take 2 hkA rfl (by kernel_rfl) rfl rfl rfl (m' := 7) rfl (Pur.move rfl) ?_
  refine JM.take 3 hkA rfl (by kernel_rfl) rfl rfl rfl (m' := 15) rfl (Pur.move rfl) ?_
  refine JM.take 4 hkA rfl (by kernel_rfl) rfl rfl rfl (m' := 31) rfl (Pur.move rfl) ?_
  refine JM.take 5 hkA rfl (by kernel_rfl) rfl rfl rfl (m' := 63) rfl (Pur.move rfl) ?_
  refine JM.take 6 hkA rfl (by kernel_rfl) rfl rfl rfl (m' := 127) rfl (Pur.nilCheck rfl) ?_
  refine JM.take 7 hkA rfl (by kernel_rfl) rfl rfl rfl (m' := 255) rfl (Pur.fieldAddr rfl) ?_
  refine JM.take 8 hkA rfl (by kernel_rfl) rfl rfl rfl (m' := 511) rfl (Pur.idxV (k := vi w) rfl rfl rfl (by omega)) ?_
  refine JM.take 9 hkA rfl (by kernel_rfl) rfl rfl rfl (m' := 1023) rfl (Pur.loadA rfl rfl rfl hcw) ?_
  refine JM.take 10 hkA rfl (by kernel_rfl) rfl rfl rfl (m' := 2047) rfl (Pur.build (cs := [_, _]) rfl rfl) ?_
  refine JM.take 11 hkA rfl (by kernel_rfl) rfl rfl rfl (m' := 4095) rfl (Pur.nilCheck rfl) ?_
  refine JM.take 12 hkA rfl (by kernel_rfl) rfl rfl rfl (m' := 8191) rfl (Pur.fieldAddr rfl) ?_
  refine JM.take 13 hkA rfl (by kernel_rfl) rfl rfl rfl (m' := 16383) rfl (Pur.idxV (k := vi v) rfl rfl rfl (by omega)) ?_
  refine JM.take 15 hkA rfl (by kernel_rfl) rfl rfl rfl (m' := 49151) rfl (Pur.nilCheck rfl) ?_
  refine JM.take 16 hkA rfl (by kernel_rfl) rfl rfl rfl (m' := 114687) rfl (Pur.fieldAddr rfl) ?_
  refine JM.one (i := 14) (by kernel_rfl) ?_
  refine JMi.effN rfl rfl rfl (m' := 131071) rfl (Eff.storeArr (E := hE) (z' := hv (vr σ (vi w))) rfl rfl rfl rfl (by rw [hs_len]; exact hlv) rfl) ?_
  rintro _ _ ⟨rfl, rfl⟩
  refine ⟨.inr hkB, ?_⟩
  refine JM.take 17 hkB rfl (by kernel_rfl) rfl rfl rfl (m' := 262143) rfl (Pur.idxV (k := vi w) rfl rfl rfl (by omega)) ?_
  refine JM.one (i := 18) (by kernel_rfl) ?_
  refine JMi.effN rfl rfl rfl (m' := 524287) rfl (Eff.storeArr (E := hE) (z' := hv ⟨0, 0⟩) rfl rfl rfl rfl (by rw [List.length_set, hs_len]; exact hlw) rfl) ?_
  rintro _ _ ⟨rfl, rfl⟩
  refine ⟨.inl (by simp), ?_⟩
  refine JM.done rfl ?_
  refine J.inBlock ?_
  refine J.fin rfl ?_
  have hdo : doS σ ⟨sMove, v, w⟩ = ⟨(σ.vars.set (vi v) (vr σ (vi w))).set (vi w) ⟨0, 0⟩, σ.alive, σ.count, σ.freed, σ.kind⟩ := by unfold doS; simp only [makesB, fromB, n_sMove_sNew, n_sMove_sShare, n_sMove_sRaw, n_sMove_sUse, n_sMove_sFree, n_sMove_sDrop, n_sMove_sCopy, n_sMove_sBorrow, n_sMove_sEither, n_sMove_sOr, n_sMove_sEnd, decide_true, decide_false, Bool.or_true, Bool.or_false, Bool.false_or, Bool.true_or, if_true, if_false, Bool.false_eq_true, ite_true, ite_false, reduceIte]; rfl
  have e9 : rc ⟨(σ.vars.set (vi v) (vr σ (vi w))).set (vi w) ⟨0, 0⟩, σ.alive, σ.count, σ.freed, σ.kind⟩ = rc σ := rc_same rfl rfl rfl
  refine ⟨_, _, ⟨aa, ca, ac, cc, af, cf, rfl, rfl⟩, rfl, fun h s => ?_⟩
  rw [hdo]
  rw [e9]
  try dsimp only
  rw [hs_set, hs_set] at s
  exact SubC.out h s

set_option maxRecDepth 10000 in
theorem rdoes_sCopy {L : List Asn} {b : Nat} {aa ac af : Option Addr} {ca cc cf : Nat} {σ : Sx} {v w : Str} (g : Ow.Good σ) (hr : wrongS σ ⟨sCopy, v, w⟩ = sNone) (hv' : isVarB v = true) (hw : isVarB w = true) :
    CallS Try.prog 51 [.pointer (some ⟨b, 0, none⟩), .agg #[.string sCopy, .string v, .string w]].toArray (blk b (arr hE (hs σ.vars) [.slice aa σ.alive.tail.length ca, .slice ac (rc σ).length cc, .slice af (fz σ.freed).length cf] 71) :: sl boolE aa ca σ.alive.tail :: sl intE ac cc (rc σ) :: sl intE af cf (fz σ.freed) :: L) (fun x M => ∃ aa' ca' ac' cc' af' cf', x = .tuple #[] ∧ M = blk b (arr hE (hs (doS σ ⟨sCopy, v, w⟩).vars) [.slice aa' (doS σ ⟨sCopy, v, w⟩).alive.tail.length ca', .slice ac' (rc (doS σ ⟨sCopy, v, w⟩)).length cc', .slice af' (fz (doS σ ⟨sCopy, v, w⟩).freed).length cf'] 71) :: sl boolE aa' ca' (doS σ ⟨sCopy, v, w⟩).alive.tail :: sl intE ac' cc' (rc (doS σ ⟨sCopy, v, w⟩)) :: sl intE af' cf' (fz (doS σ ⟨sCopy, v, w⟩).freed) :: L) := by
  have hv8 := g.v8
  have hn21 := g.n21
  have hn1 := g.n1
  have hfl := freed_le g
  have htl : σ.alive.tail.length = σ.alive.length - 1 := List.length_tail
  have hrl := rc_len σ
  have hv9 := vi_lt hv'
  have hR := wrong_none hr
  have hw9 := vi_lt hw
  have hlw : vi w < σ.vars.length := by omega
  have hlv : vi v < σ.vars.length := by omega
  have hvy : yv σ ⟨sCopy, v, w⟩ = vr σ (vi w) := by unfold yv; rfl
  have hx0 : (vr σ (vi v)).m = 0 := hR.w2 (.inr (show fromB sCopy = true by decide))
  have hy0 : (vr σ (vi w)).m ≠ 0 := by have := hR.w3 (.inl (show fromB sCopy = true by decide)); rw [hvy] at this; exact this
  have hne : ¬ vi w = vi v := fun e => by rw [e] at hy0; exact hy0 hx0
  have hgw : ((hs σ.vars).set (vi v) (hv (vr σ (vi w))))[vi w]? = some (hv (vr σ (vi w))) := by rw [List.getElem?_set_ne (fun e => hne e.symm)]; exact hs_get hlw
  refine CallS.ent ?_
  refine CallS.enter Try.func51 rfl rfl rfl rfl rfl ?_
  refine J.seq rfl ?_
  refine J.region rfl ?_
  refine JO.eff rfl rfl rfl (Eff.box (cs := [_, _, _]) rfl rfl) ?_
  rintro _ _ ⟨b3, rfl, rfl⟩
  refine JO.nil ?_
  refine J.seq rfl ?_
  refine J.quiet rfl Try.mixed (by kernel_rfl) ?_
  refine JQ.pur rfl rfl rfl (Pur.fieldAddr rfl) ?_
  refine JQ.pur rfl rfl rfl (Pur.load rfl (CellIn.blk rfl)) ?_
  refine JQ.callE rfl rfl rfl ((CallS.eqv (v' := .int .i64 (vi v : Int)) (index_r_ok v) (congrArg (Value.int .i64) (by unfold ixV; rw [if_pos hv'])))) ?_
  refine JQ.pur rfl rfl rfl (Pur.fieldAddr rfl) ?_
  refine JQ.pur rfl rfl rfl (Pur.load rfl (CellIn.blk rfl)) ?_
  refine JQ.callE rfl rfl rfl ((CallS.eqv (v' := .int .i64 (vi w : Int)) (index_r_ok w) (congrArg (Value.int .i64) (by unfold ixV; rw [if_pos hw])))) ?_
  refine JQ.pur rfl rfl rfl (Pur.assign rfl) ?_
  refine JQ.pur rfl rfl rfl (Pur.assign rfl) ?_
  refine JQ.nil ?_
  refine J.seq rfl ?_
  refine J.region rfl ?_
  refine JO.pur rfl rfl rfl (Pur.fieldAddr rfl) ?_
  refine JO.pur rfl rfl rfl (Pur.load rfl (CellIn.blk rfl)) ?_
  refine JO.nil ?_
  refine J.block rfl ?_
  refine J.seq rfl ?_
  refine J.seq rfl ?_
  refine J.region rfl ?_
  refine JO.pur rfl rfl rfl (Pur.eqlT rfl rfl) ?_
  refine JO.setv (u' := .bool false) 15 rfl (congrArg Value.bool (by decide)) ?_
  refine JO.pur rfl rfl rfl (Pur.assign rfl) ?_
  refine JO.nil ?_
  refine J.condF rfl rfl ?_
  refine J.seq rfl ?_
  refine J.region rfl ?_
  refine JO.pur rfl rfl rfl (Pur.eqlT rfl rfl) ?_
  refine JO.setv (u' := .bool false) 16 rfl (congrArg Value.bool (by decide)) ?_
  refine JO.pur rfl rfl rfl (Pur.assign rfl) ?_
  refine JO.nil ?_
  refine J.condF rfl rfl ?_
  refine J.region rfl ?_
  refine JO.pur rfl rfl rfl (Pur.eqlT rfl rfl) ?_
  refine JO.setv (u' := .bool false) 17 rfl (congrArg Value.bool (by decide)) ?_
  refine JO.pur rfl rfl rfl (Pur.assign rfl) ?_
  refine JO.nil ?_
  refine J.condF rfl rfl ?_
  refine J.seq rfl ?_
  refine J.region rfl ?_
  refine JO.pur rfl rfl rfl (Pur.eqlT rfl rfl) ?_
  refine JO.setv (u' := .bool false) 79 rfl (congrArg Value.bool (by decide)) ?_
  refine JO.pur rfl rfl rfl (Pur.assign rfl) ?_
  refine JO.nil ?_
  refine J.condF rfl rfl ?_
  refine J.seq rfl ?_
  refine J.region rfl ?_
  refine JO.pur rfl rfl rfl (Pur.eqlT rfl rfl) ?_
  refine JO.setv (u' := .bool true) 98 rfl (congrArg Value.bool (by decide)) ?_
  refine JO.pur rfl rfl rfl (Pur.assign rfl) ?_
  refine JO.nil ?_
  refine J.condT rfl rfl ?_
  refine J.seq rfl ?_
  refine J.mask0 (n := 12) [11] rfl Try.mixed rfl (by kernel_rfl) ?_
  refine JM.take 0 (fun _ h => h) rfl (by kernel_rfl) rfl rfl rfl (m' := 1) rfl (Pur.move rfl) ?_
  refine JM.take 1 (fun _ h => h) rfl (by kernel_rfl) rfl rfl rfl (m' := 3) rfl (Pur.move rfl) ?_
  refine JM.take 2 (fun _ h => h) rfl (by kernel_rfl) rfl rfl rfl (m' := 7) rfl (Pur.move rfl) ?_
  refine JM.take 3 (fun _ h => h) rfl (by kernel_rfl) rfl rfl rfl (m' := 15) rfl (Pur.move rfl) ?_
  refine JM.take 4 (fun _ h => h) rfl (by kernel_rfl) rfl rfl rfl (m' := 31) rfl (Pur.nilCheck rfl) ?_
  refine JM.take 5 (fun _ h => h) rfl (by kernel_rfl) rfl rfl rfl (m' := 63) rfl (Pur.fieldAddr rfl) ?_
  refine JM.take 6 (fun _ h => h) rfl (by kernel_rfl) rfl rfl rfl (m' := 127) rfl (Pur.idxV (k := vi w) rfl rfl rfl (by omega)) ?_
  refine JM.take 7 (fun _ h => h) rfl (by kernel_rfl) rfl rfl rfl (m' := 255) rfl (Pur.loadA rfl rfl rfl (CellsIn.arr (E := hE) rfl (hs_get hlw))) ?_
  refine JM.take 8 (fun _ h => h) rfl (by kernel_rfl) rfl rfl rfl (m' := 511) rfl (Pur.nilCheck rfl) ?_
  refine JM.take 9 (fun _ h => h) rfl (by kernel_rfl) rfl rfl rfl (m' := 1023) rfl (Pur.fieldAddr rfl) ?_
  refine JM.take 10 (fun _ h => h) rfl (by kernel_rfl) rfl rfl rfl (m' := 2047) rfl (Pur.idxV (k := vi v) rfl rfl rfl (by omega)) ?_
  refine JM.one (i := 11) (by kernel_rfl) ?_
  refine JMi.effN rfl rfl rfl (m' := 4095) rfl (Eff.storeArr (E := hE) (z' := (hv (vr σ (vi w)))) rfl rfl rfl rfl (by rw [hs_len]; exact hlv) rfl) ?_
  rintro _ _ ⟨rfl, rfl⟩
  refine ⟨.inl (by simp), ?_⟩
  refine JM.done rfl ?_
  refine J.seq rfl ?_
  refine J.region rfl ?_
  refine JO.pur rfl rfl rfl (Pur.move rfl) ?_
  refine JO.pur rfl rfl rfl (Pur.move rfl) ?_
  refine JO.pur rfl rfl rfl (Pur.nilCheck rfl) ?_
  refine JO.pur rfl rfl rfl (Pur.fieldAddr rfl) ?_
  refine JO.pur rfl rfl rfl (Pur.idxV (k := vi w) rfl rfl rfl (by omega)) ?_
  refine JO.pur rfl rfl rfl (Pur.fieldAddr rfl) ?_
  refine JO.pur rfl rfl rfl (Pur.load rfl (CellIn.arr (E := hE) rfl hgw rfl)) ?_
  refine JO.pur rfl rfl rfl (Pur.eqlT rfl rfl) ?_
  refine JO.nil ?_
  refine J.splitB 117 rfl (fun h117 => ?_) (fun h117 => ?_)
  · try simp only [decide_eq_true_eq, decide_eq_false_iff_not, Bool.not_eq_true', Bool.not_eq_false', Bool.and_eq_true, Bool.or_eq_true, Bool.and_eq_false_iff, Bool.or_eq_false_iff, Option.isNone_some, Option.isSome_some, Option.isNone_none, Option.isSome_none, Int.not_lt, Int.not_le, beq_iff_eq, beq_eq_false_iff_ne, bne_iff_ne, ne_eq, Bool.not_not, Decidable.not_not] at h117
    have hm : (vr σ (vi w)).m = 2 := (mstr_shared (g.four _)).1 h117
    obtain ⟨ho1, ho2⟩ := g.obj (vi w) (by omega)
    have hkd := g.shr _ hm
    have hcnt := g.cnt _ ho2 hkd
    have hsl := sharers_le g (vr σ (vi w)).o
    have hqy : (hv (vr σ (vi w))).1 = ((vr σ (vi w)).o : Int) := rfl
    have hk1 : (hv (vr σ (vi w))).1 - 1 = (((vr σ (vi w)).o - 1 : Nat) : Int) := by omega
    have hrg := rc_get ho1 ho2 hkd
    refine J.condT rfl rfl ?_
    refine J.mask0 (n := 17) [16] rfl Try.mixed rfl (by kernel_rfl) ?_
    refine JM.take 0 (fun _ h => h) rfl (by kernel_rfl) rfl rfl rfl (m' := 1) rfl (Pur.move rfl) ?_
    refine JM.take 1 (fun _ h => h) rfl (by kernel_rfl) rfl rfl rfl (m' := 3) rfl (Pur.nilCheck rfl) ?_
    refine JM.take 2 (fun _ h => h) rfl (by kernel_rfl) rfl rfl rfl (m' := 7) rfl (Pur.fieldAddr rfl) ?_
    refine JM.take 3 (fun _ h => h) rfl (by kernel_rfl) rfl rfl rfl (m' := 15) rfl (Pur.load rfl (CellIn.arrT (n := 16) (k := 1) (by first | (rw [hs_len, hv8]; rfl) | (rw [List.length_set, hs_len, hv8]; rfl) | (simp only [List.length_set, hs_len, hv8]; rfl)) rfl)) ?_
    refine JM.take 4 (fun _ h => h) rfl (by kernel_rfl) rfl rfl rfl (m' := 31) rfl (Pur.move rfl) ?_
    refine JM.take 5 (fun _ h => h) rfl (by kernel_rfl) rfl rfl rfl (m' := 63) rfl (Pur.move rfl) ?_
    refine JM.take 6 (fun _ h => h) rfl (by kernel_rfl) rfl rfl rfl (m' := 127) rfl (Pur.nilCheck rfl) ?_
    refine JM.take 7 (fun _ h => h) rfl (by kernel_rfl) rfl rfl rfl (m' := 255) rfl (Pur.fieldAddr rfl) ?_
    refine JM.take 8 (fun _ h => h) rfl (by kernel_rfl) rfl rfl rfl (m' := 511) rfl (Pur.idxV (k := vi w) rfl rfl rfl (by omega)) ?_
    refine JM.take 9 (fun _ h => h) rfl (by kernel_rfl) rfl rfl rfl (m' := 1023) rfl (Pur.fieldAddr rfl) ?_
    refine JM.take 10 (fun _ h => h) rfl (by kernel_rfl) rfl rfl rfl (m' := 2047) rfl (Pur.load rfl (CellIn.arr (E := hE) rfl hgw rfl)) ?_
    refine JM.take 11 (fun _ h => h) rfl (by kernel_rfl) rfl rfl rfl (m' := 4095) rfl (Pur.sub rfl rfl (wr64 (by omega))) ?_
    refine JM.take 12 (fun _ h => h) rfl (by kernel_rfl) rfl rfl rfl (m' := 8191) rfl (Pur.idx rfl rfl rfl (by first | rfl | (simp; done) | omega) hk1 (by omega)) ?_
    refine JM.take 13 (fun _ h => h) rfl (by kernel_rfl) rfl rfl rfl (m' := 16383) rfl (Pur.load rfl (CellIn.el0 rfl hrg rfl)) ?_
    refine JM.take 14 (fun _ h => h) rfl (by kernel_rfl) rfl rfl rfl (m' := 32767) rfl (Pur.add rfl rfl (wr64 (by omega))) ?_
    refine JM.take 15 (fun _ h => h) rfl (by kernel_rfl) rfl rfl rfl (m' := 65535) rfl (Pur.idx rfl rfl rfl (by first | rfl | (simp; done) | omega) hk1 (by omega)) ?_
    refine JM.one (i := 16) (by kernel_rfl) ?_
    refine JMi.effN rfl rfl rfl (m' := 131071) rfl (Eff.storeS0 (E := intE) (z' := _) rfl rfl rfl rfl hrg .head) ?_
    rintro _ _ ⟨rfl, rfl⟩
    refine ⟨.inl (by simp), ?_⟩
    refine JM.done rfl ?_
    refine J.inBlock ?_
    refine J.fin rfl ?_
    have hdo : doS σ ⟨sCopy, v, w⟩ = ⟨σ.vars.set (vi v) (vr σ (vi w)), σ.alive, σ.count.set (vr σ (vi w)).o (σ.count.getD (vr σ (vi w)).o 0 + 1), σ.freed, σ.kind⟩ := by unfold doS; simp only [makesB, fromB, n_sCopy_sNew, n_sCopy_sShare, n_sCopy_sRaw, n_sCopy_sUse, n_sCopy_sFree, n_sCopy_sDrop, n_sCopy_sMove, n_sCopy_sBorrow, n_sCopy_sEither, n_sCopy_sOr, n_sCopy_sEnd, decide_true, decide_false, Bool.or_true, Bool.or_false, Bool.false_or, Bool.true_or, if_true, if_false, Bool.false_eq_true, ite_true, ite_false, reduceIte]; rw [if_pos hm]; rfl
    have e9 : rc ⟨σ.vars.set (vi v) (vr σ (vi w)), σ.alive, σ.count.set (vr σ (vi w)).o (σ.count.getD (vr σ (vi w)).o 0 + 1), σ.freed, σ.kind⟩ = (rc σ).set ((vr σ (vi w)).o - 1) (σ.count.getD (vr σ (vi w)).o 0 + 1) := (rc_set ho1 ho2 g.cl hkd rfl).symm
    refine ⟨_, _, ⟨aa, ca, ac, cc, af, cf, rfl, rfl⟩, rfl, fun h s => ?_⟩
    rw [hdo]
    rw [e9]
    try dsimp only
    rw [hs_set] at s
    rw [show ((rc σ).set ((vr σ (vi w)).o - 1) (σ.count.getD (vr σ (vi w)).o 0 + 1)).length = (rc σ).length by simp]
    exact SubC.out h s
  · try simp only [decide_eq_true_eq, decide_eq_false_iff_not, Bool.not_eq_true', Bool.not_eq_false', Bool.and_eq_true, Bool.or_eq_true, Bool.and_eq_false_iff, Bool.or_eq_false_iff, Option.isNone_some, Option.isSome_some, Option.isNone_none, Option.isSome_none, Int.not_lt, Int.not_le, beq_iff_eq, beq_eq_false_iff_ne, bne_iff_ne, ne_eq, Bool.not_not, Decidable.not_not] at h117
    have hm : ¬ (vr σ (vi w)).m = 2 := fun e => h117 ((mstr_shared (g.four _)).2 e)
    refine J.condF rfl rfl ?_
    refine J.skip rfl ?_
    refine J.inBlock ?_
    refine J.fin rfl ?_
    have hdo : doS σ ⟨sCopy, v, w⟩ = ⟨σ.vars.set (vi v) (vr σ (vi w)), σ.alive, σ.count, σ.freed, σ.kind⟩ := by unfold doS; simp only [makesB, fromB, n_sCopy_sNew, n_sCopy_sShare, n_sCopy_sRaw, n_sCopy_sUse, n_sCopy_sFree, n_sCopy_sDrop, n_sCopy_sMove, n_sCopy_sBorrow, n_sCopy_sEither, n_sCopy_sOr, n_sCopy_sEnd, decide_true, decide_false, Bool.or_true, Bool.or_false, Bool.false_or, Bool.true_or, if_true, if_false, Bool.false_eq_true, ite_true, ite_false, reduceIte]; rw [if_neg hm]; rfl
    have e9 : rc ⟨σ.vars.set (vi v) (vr σ (vi w)), σ.alive, σ.count, σ.freed, σ.kind⟩ = rc σ := rc_same rfl rfl rfl
    refine ⟨_, _, ⟨aa, ca, ac, cc, af, cf, rfl, rfl⟩, rfl, fun h s => ?_⟩
    rw [hdo]
    rw [e9]
    try dsimp only
    rw [hs_set] at s
    exact SubC.out h s

set_option maxRecDepth 10000 in
theorem rdoes_sBorrow {L : List Asn} {b : Nat} {aa ac af : Option Addr} {ca cc cf : Nat} {σ : Sx} {v w : Str} (g : Ow.Good σ) (hr : wrongS σ ⟨sBorrow, v, w⟩ = sNone) (hv' : isVarB v = true) (hw : isVarB w = true) :
    CallS Try.prog 51 [.pointer (some ⟨b, 0, none⟩), .agg #[.string sBorrow, .string v, .string w]].toArray (blk b (arr hE (hs σ.vars) [.slice aa σ.alive.tail.length ca, .slice ac (rc σ).length cc, .slice af (fz σ.freed).length cf] 71) :: sl boolE aa ca σ.alive.tail :: sl intE ac cc (rc σ) :: sl intE af cf (fz σ.freed) :: L) (fun x M => ∃ aa' ca' ac' cc' af' cf', x = .tuple #[] ∧ M = blk b (arr hE (hs (doS σ ⟨sBorrow, v, w⟩).vars) [.slice aa' (doS σ ⟨sBorrow, v, w⟩).alive.tail.length ca', .slice ac' (rc (doS σ ⟨sBorrow, v, w⟩)).length cc', .slice af' (fz (doS σ ⟨sBorrow, v, w⟩).freed).length cf'] 71) :: sl boolE aa' ca' (doS σ ⟨sBorrow, v, w⟩).alive.tail :: sl intE ac' cc' (rc (doS σ ⟨sBorrow, v, w⟩)) :: sl intE af' cf' (fz (doS σ ⟨sBorrow, v, w⟩).freed) :: L) := by
  have hv8 := g.v8
  have hn21 := g.n21
  have hn1 := g.n1
  have hfl := freed_le g
  have htl : σ.alive.tail.length = σ.alive.length - 1 := List.length_tail
  have hrl := rc_len σ
  have hv9 := vi_lt hv'
  have hR := wrong_none hr
  have hw9 := vi_lt hw
  have hlw : vi w < σ.vars.length := by omega
  have hlv : vi v < σ.vars.length := by omega
  refine CallS.ent ?_
  refine CallS.enter Try.func51 rfl rfl rfl rfl rfl ?_
  refine J.seq rfl ?_
  refine J.region rfl ?_
  refine JO.eff rfl rfl rfl (Eff.box (cs := [_, _, _]) rfl rfl) ?_
  rintro _ _ ⟨b3, rfl, rfl⟩
  refine JO.nil ?_
  refine J.seq rfl ?_
  refine J.quiet rfl Try.mixed (by kernel_rfl) ?_
  refine JQ.pur rfl rfl rfl (Pur.fieldAddr rfl) ?_
  refine JQ.pur rfl rfl rfl (Pur.load rfl (CellIn.blk rfl)) ?_
  refine JQ.callE rfl rfl rfl ((CallS.eqv (v' := .int .i64 (vi v : Int)) (index_r_ok v) (congrArg (Value.int .i64) (by unfold ixV; rw [if_pos hv'])))) ?_
  refine JQ.pur rfl rfl rfl (Pur.fieldAddr rfl) ?_
  refine JQ.pur rfl rfl rfl (Pur.load rfl (CellIn.blk rfl)) ?_
  refine JQ.callE rfl rfl rfl ((CallS.eqv (v' := .int .i64 (vi w : Int)) (index_r_ok w) (congrArg (Value.int .i64) (by unfold ixV; rw [if_pos hw])))) ?_
  refine JQ.pur rfl rfl rfl (Pur.assign rfl) ?_
  refine JQ.pur rfl rfl rfl (Pur.assign rfl) ?_
  refine JQ.nil ?_
  refine J.seq rfl ?_
  refine J.region rfl ?_
  refine JO.pur rfl rfl rfl (Pur.fieldAddr rfl) ?_
  refine JO.pur rfl rfl rfl (Pur.load rfl (CellIn.blk rfl)) ?_
  refine JO.nil ?_
  refine J.block rfl ?_
  refine J.seq rfl ?_
  refine J.seq rfl ?_
  refine J.region rfl ?_
  refine JO.pur rfl rfl rfl (Pur.eqlT rfl rfl) ?_
  refine JO.setv (u' := .bool false) 15 rfl (congrArg Value.bool (by decide)) ?_
  refine JO.pur rfl rfl rfl (Pur.assign rfl) ?_
  refine JO.nil ?_
  refine J.condF rfl rfl ?_
  refine J.seq rfl ?_
  refine J.region rfl ?_
  refine JO.pur rfl rfl rfl (Pur.eqlT rfl rfl) ?_
  refine JO.setv (u' := .bool false) 16 rfl (congrArg Value.bool (by decide)) ?_
  refine JO.pur rfl rfl rfl (Pur.assign rfl) ?_
  refine JO.nil ?_
  refine J.condF rfl rfl ?_
  refine J.region rfl ?_
  refine JO.pur rfl rfl rfl (Pur.eqlT rfl rfl) ?_
  refine JO.setv (u' := .bool false) 17 rfl (congrArg Value.bool (by decide)) ?_
  refine JO.pur rfl rfl rfl (Pur.assign rfl) ?_
  refine JO.nil ?_
  refine J.condF rfl rfl ?_
  refine J.seq rfl ?_
  refine J.region rfl ?_
  refine JO.pur rfl rfl rfl (Pur.eqlT rfl rfl) ?_
  refine JO.setv (u' := .bool false) 79 rfl (congrArg Value.bool (by decide)) ?_
  refine JO.pur rfl rfl rfl (Pur.assign rfl) ?_
  refine JO.nil ?_
  refine J.condF rfl rfl ?_
  refine J.seq rfl ?_
  refine J.region rfl ?_
  refine JO.pur rfl rfl rfl (Pur.eqlT rfl rfl) ?_
  refine JO.setv (u' := .bool false) 98 rfl (congrArg Value.bool (by decide)) ?_
  refine JO.pur rfl rfl rfl (Pur.assign rfl) ?_
  refine JO.nil ?_
  refine J.condF rfl rfl ?_
  refine J.seq rfl ?_
  refine J.region rfl ?_
  refine JO.pur rfl rfl rfl (Pur.eqlT rfl rfl) ?_
  refine JO.setv (u' := .bool true) 135 rfl (congrArg Value.bool (by decide)) ?_
  refine JO.pur rfl rfl rfl (Pur.assign rfl) ?_
  refine JO.nil ?_
  refine J.condT rfl rfl ?_
  refine J.mask0 (n := 14) [13] rfl Try.mixed rfl (by kernel_rfl) ?_
  refine JM.take 0 (fun _ h => h) rfl (by kernel_rfl) rfl rfl rfl (m' := 1) rfl (Pur.move rfl) ?_
  refine JM.take 1 (fun _ h => h) rfl (by kernel_rfl) rfl rfl rfl (m' := 3) rfl (Pur.move rfl) ?_
  refine JM.take 2 (fun _ h => h) rfl (by kernel_rfl) rfl rfl rfl (m' := 7) rfl (Pur.move rfl) ?_
  refine JM.take 3 (fun _ h => h) rfl (by kernel_rfl) rfl rfl rfl (m' := 15) rfl (Pur.move rfl) ?_
  refine JM.take 4 (fun _ h => h) rfl (by kernel_rfl) rfl rfl rfl (m' := 31) rfl (Pur.nilCheck rfl) ?_
  refine JM.take 5 (fun _ h => h) rfl (by kernel_rfl) rfl rfl rfl (m' := 63) rfl (Pur.fieldAddr rfl) ?_
  refine JM.take 6 (fun _ h => h) rfl (by kernel_rfl) rfl rfl rfl (m' := 127) rfl (Pur.idxV (k := vi w) rfl rfl rfl (by omega)) ?_
  refine JM.take 7 (fun _ h => h) rfl (by kernel_rfl) rfl rfl rfl (m' := 255) rfl (Pur.fieldAddr rfl) ?_
  refine JM.take 8 (fun _ h => h) rfl (by kernel_rfl) rfl rfl rfl (m' := 511) rfl (Pur.load rfl (CellIn.arr (E := hE) rfl (hs_get hlw) rfl)) ?_
  refine JM.take 9 (fun _ h => h) rfl (by kernel_rfl) rfl rfl rfl (m' := 1023) rfl (Pur.build (cs := [_, _]) rfl rfl) ?_
  refine JM.take 10 (fun _ h => h) rfl (by kernel_rfl) rfl rfl rfl (m' := 2047) rfl (Pur.nilCheck rfl) ?_
  refine JM.take 11 (fun _ h => h) rfl (by kernel_rfl) rfl rfl rfl (m' := 4095) rfl (Pur.fieldAddr rfl) ?_
  refine JM.take 12 (fun _ h => h) rfl (by kernel_rfl) rfl rfl rfl (m' := 8191) rfl (Pur.idxV (k := vi v) rfl rfl rfl (by omega)) ?_
  refine JM.one (i := 13) (by kernel_rfl) ?_
  refine JMi.effN rfl rfl rfl (m' := 16383) rfl (Eff.storeArr (E := hE) (z' := (hv ⟨3, (vr σ (vi w)).o⟩)) rfl rfl rfl rfl (by rw [hs_len]; exact hlv) rfl) ?_
  rintro _ _ ⟨rfl, rfl⟩
  refine ⟨.inl (by simp), ?_⟩
  refine JM.done rfl ?_
  refine J.inBlock ?_
  refine J.fin rfl ?_
  have hdo : doS σ ⟨sBorrow, v, w⟩ = ⟨σ.vars.set (vi v) ⟨3, (vr σ (vi w)).o⟩, σ.alive, σ.count, σ.freed, σ.kind⟩ := by unfold doS; simp only [makesB, fromB, n_sBorrow_sNew, n_sBorrow_sShare, n_sBorrow_sRaw, n_sBorrow_sUse, n_sBorrow_sFree, n_sBorrow_sDrop, n_sBorrow_sMove, n_sBorrow_sCopy, n_sBorrow_sEither, n_sBorrow_sOr, n_sBorrow_sEnd, decide_true, decide_false, Bool.or_true, Bool.or_false, Bool.false_or, Bool.true_or, if_true, if_false, Bool.false_eq_true, ite_true, ite_false, reduceIte]; rfl
  have e9 : rc ⟨σ.vars.set (vi v) ⟨3, (vr σ (vi w)).o⟩, σ.alive, σ.count, σ.freed, σ.kind⟩ = rc σ := rc_same rfl rfl rfl
  refine ⟨_, _, ⟨aa, ca, ac, cc, af, cf, rfl, rfl⟩, rfl, fun h s => ?_⟩
  rw [hdo]
  rw [e9]
  try dsimp only
  rw [hs_set] at s
  exact SubC.out h s

end Go.Proofs.Ythdaopmfgmojnaa
