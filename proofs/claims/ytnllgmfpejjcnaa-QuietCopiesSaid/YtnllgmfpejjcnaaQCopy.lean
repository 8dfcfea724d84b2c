/-
  A part of the proof of the claim that this folder bears.
  This text: QCopy.
-/
import Derived.Test.YtnllgmfpejjcnaaQAt
set_option linter.unusedVariables false
set_option linter.unusedSimpArgs false
namespace Go.Proofs.Ytnllgmfpejjcnaa
open Go Go.KK Qt

theorem copy_core {R : List Asn} (r : Nat) (σ : St) (N : Nat) (hw : Wf σ N) :
    CallS Try.prog 28 [.pointer (some ⟨r, 0, none⟩)].toArray (ringA r σ :: R) (fun v M => ∃ B, (∃ q, v = .pointer (some ⟨q, 0, none⟩) ∧ B = ringA q σ) ∧ M = B :: ringA r σ :: R) := by
  have w1 := hw.pos
  have w2 := hw.le
  have w4 := hw.len
  have w5 := hw.num
  refine CallS.ent ?_
  refine CallS.enter Try.func28 rfl rfl rfl rfl rfl ?_
  refine ring_open fun a b cap cap2 => ?_
  refine J.fact (fun h hs => SlH.nil (a := b) hs) fun hb0 => ?_
  have hb : b = none → σ.fly.length = 0 ∧ cap2 = 0 := fun e => ⟨by rw [(hb0 e).1]; rfl, (hb0 e).2⟩
  refine J.fact (fun h hs => SlH.nil (a := a) hs) fun ha0 => ?_
  have ha : a = none → σ.spots.length = 0 ∧ cap = 0 := fun e => ⟨by rw [(ha0 e).1]; rfl, (ha0 e).2⟩
  refine J.seq rfl ?_
  refine J.region rfl ?_
  refine JO.pur rfl rfl rfl (Pur.assign rfl) ?_
  refine JO.nil ?_
  refine J.seq rfl ?_
  refine J.seq rfl ?_
  refine J.region rfl ?_
  refine JO.pur rfl rfl rfl (Pur.move rfl) ?_
  refine JO.effR rfl rfl rfl (Eff.call rfl (none_ok)) ?_
  refine JO.nil ?_
  refine J.setv (u' := .bool false) 5 rfl (congrArg Value.bool ((decide_eq_false (by omega)))) ?_
  refine J.condF rfl rfl ?_
  refine J.skip rfl ?_
  refine J.seq rfl ?_
  refine J.region rfl ?_
  refine JO.pur rfl rfl rfl (Pur.move rfl) ?_
  refine JO.pur rfl rfl rfl (Pur.nilCheck rfl) ?_
  refine JO.pur rfl rfl rfl (Pur.loadA rfl rfl rfl CellsIn.blk) ?_
  refine JO.eff rfl rfl rfl (Eff.alloc (cs := [_, _, _, _, _, _, _, _]) rfl) ?_
  rintro _ _ ⟨b3, rfl, rfl⟩
  refine JO.effN rfl rfl (Eff.storeBA (cs' := [_, _, _, _, _, _, _, _]) rfl rfl (by rfl) (by rfl) (by rfl)) ?_
  rintro _ _ ⟨rfl, rfl⟩
  refine JO.nil ?_
  refine J.seq rfl ?_
  refine J.mask1 (n := 14) [13] rfl Try.mixed rfl (by kernel_rfl) ?_
  refine JM.take 0 (fun _ h => h.tail) rfl (by kernel_rfl) rfl rfl rfl (m' := 1) rfl (Pur.move rfl) ?_
  refine JM.take 1 (fun _ h => h.tail) rfl (by kernel_rfl) rfl rfl rfl (m' := 3) rfl (Pur.nilCheck rfl) ?_
  refine JM.take 2 (fun _ h => h.tail) rfl (by kernel_rfl) rfl rfl rfl (m' := 7) rfl (Pur.fieldAddr rfl) ?_
  refine JM.take 3 (fun _ h => h.tail) rfl (by kernel_rfl) rfl rfl rfl (m' := 15) rfl (Pur.load rfl (CellIn.blk rfl)) ?_
  refine JM.take 5 (fun _ h => h.tail) rfl (by kernel_rfl) rfl rfl rfl (m' := 47) rfl (Pur.move rfl) ?_
  refine JM.take 6 (fun _ h => h.tail) rfl (by kernel_rfl) rfl rfl rfl (m' := 111) rfl (Pur.nilCheck rfl) ?_
  refine JM.take 7 (fun _ h => h.tail) rfl (by kernel_rfl) rfl rfl rfl (m' := 239) rfl (Pur.fieldAddr rfl) ?_
  refine JM.take 8 (fun _ h => h.tail) rfl (by kernel_rfl) rfl rfl rfl (m' := 495) rfl (Pur.load rfl (CellIn.blk rfl)) ?_
  refine JM.one (i := 4) (by kernel_rfl) ?_
  refine JMi.eff rfl rfl rfl rfl (m' := 511) rfl (Eff.call rfl (cloneSpots rfl (by omega) ha)) ?_
  rintro _ _ ⟨a13, c13, ⟨rfl, -⟩, rfl⟩
  refine ⟨.inr (fun _ h => h.tail.tail), ?_⟩
  refine JM.one (i := 9) (by kernel_rfl) ?_
  refine JMi.eff rfl rfl rfl rfl (m' := 1023) rfl (Eff.call rfl (clonePairs rfl (by omega) hb)) ?_
  rintro _ _ ⟨a18, c18, ⟨rfl, -⟩, rfl⟩
  refine ⟨.inr (fun _ h => h.tail.tail.tail), ?_⟩
  refine JM.take 10 (fun _ h => h.tail.tail.tail) rfl (by kernel_rfl) rfl rfl rfl (m' := 2047) rfl (Pur.fieldAddr rfl) ?_
  refine JM.one (i := 11) (by kernel_rfl) ?_
  refine JMi.effN rfl rfl rfl (m' := 4095) rfl (Eff.storeB rfl rfl rfl .head) ?_
  rintro _ _ ⟨rfl, rfl⟩
  refine ⟨.inr (fun _ h => h.tail.tail.tail), ?_⟩
  refine JM.take 12 (fun _ h => h.tail.tail.tail) rfl (by kernel_rfl) rfl rfl rfl (m' := 8191) rfl (Pur.fieldAddr rfl) ?_
  refine JM.one (i := 13) (by kernel_rfl) ?_
  refine JMi.effN rfl rfl rfl (m' := 16383) rfl (Eff.storeB rfl rfl rfl (.tail .head)) ?_
  rintro _ _ ⟨rfl, rfl⟩
  refine ⟨.inl (by simp), ?_⟩
  refine JM.done rfl ?_
  refine J.seq rfl ?_
  refine J.region rfl ?_
  refine JO.pur rfl rfl rfl (Pur.assign rfl) ?_
  refine JO.nil ?_
  refine J.ret rfl rfl ?_
  refine ⟨_, _, ⟨_, ⟨b3, rfl, rfl⟩, rfl⟩, rfl, fun h hs => ?_⟩
  have hs := ring_shut (r := b3) (σ := σ) rfl rfl (by first | exact (Sat.pull (.tail (.tail .head)) (Sat.pull (.tail .head) (Sat.pull .head hs))) | exact (Sat.pull (.tail (.tail .head)) (Sat.pull (.tail .head) (Sat.pull (.tail .head) hs))))
  exact hs.cons_imp (fun _ h => h) (fun h hs => ring_shut rfl rfl hs)

theorem fcopy_core {R : List Asn} (r : Nat) (σ : St) (N : Nat) (hw : Wf σ N) :
    CallS Try.prog 29 [.pointer (some ⟨r, 0, none⟩)].toArray (refA r σ :: R) (fun v M => ∃ B, (∃ q, v = .pointer (some ⟨q, 0, none⟩) ∧ B = refA q σ) ∧ M = B :: refA r σ :: R) := by
  have w1 := hw.pos
  have w2 := hw.le
  have w4 := hw.len
  have w5 := hw.num
  refine CallS.ent ?_
  refine CallS.enter Try.func29 rfl rfl rfl rfl rfl ?_
  refine ref_open fun a1 a2 a3 a4 c1 c2 c3 c4 => ?_
  refine J.fact (fun h hs => SlH.nil (a := a1) hs) fun hz1 => ?_
  have hn1 : a1 = none → σ.spots.length = 0 ∧ c1 = 0 := fun e => ⟨by have := congrArg List.length (hz1 e).1; simpa using this, (hz1 e).2⟩
  refine J.fact (fun h hs => SlH.nil (a := a2) hs) fun hz2 => ?_
  have hn2 : a2 = none → σ.spots.length = 0 ∧ c2 = 0 := fun e => ⟨by have := congrArg List.length (hz2 e).1; simpa using this, (hz2 e).2⟩
  refine J.fact (fun h hs => SlH.nil (a := a3) hs) fun hz3 => ?_
  have hn3 : a3 = none → σ.spots.length = 0 ∧ c3 = 0 := fun e => ⟨by have := congrArg List.length (hz3 e).1; simpa using this, (hz3 e).2⟩
  refine J.fact (fun h hs => SlH.nil (a := a4) hs) fun hz4 => ?_
  have hn4 : a4 = none → σ.fly.length = 0 ∧ c4 = 0 := fun e => ⟨by rw [(hz4 e).1]; rfl, (hz4 e).2⟩
  refine J.seq rfl ?_
  refine J.region rfl ?_
  refine JO.pur rfl rfl rfl (Pur.assign rfl) ?_
  refine JO.nil ?_
  refine J.seq rfl ?_
  refine J.region rfl ?_
  refine JO.pur rfl rfl rfl (Pur.move rfl) ?_
  refine JO.pur rfl rfl rfl (Pur.nilCheck rfl) ?_
  refine JO.pur rfl rfl rfl (Pur.loadA rfl rfl rfl CellsIn.blk) ?_
  refine JO.eff rfl rfl rfl (Eff.alloc (cs := [_, _, _, _, _, _, _, _, _, _, _]) rfl) ?_
  rintro _ _ ⟨b3, rfl, rfl⟩
  refine JO.effN rfl rfl (Eff.storeBA (cs' := [_, _, _, _, _, _, _, _, _, _, _]) rfl rfl (by rfl) (by rfl) (by rfl)) ?_
  rintro _ _ ⟨rfl, rfl⟩
  refine JO.nil ?_
  refine J.seq rfl ?_
  refine J.region rfl ?_
  refine JO.eff rfl rfl rfl (Eff.buildSlice boolE [] rfl rfl rfl rfl rfl rfl rfl) ?_
  rintro _ _ ⟨b7, rfl, -, rfl⟩
  refine JO.pur rfl rfl rfl (Pur.move rfl) ?_
  refine JO.pur rfl rfl rfl (Pur.nilCheck rfl) ?_
  refine JO.pur rfl rfl rfl (Pur.fieldAddr rfl) ?_
  refine JO.pur rfl rfl rfl (Pur.load rfl (CellIn.blk rfl)) ?_
  refine JO.eff rfl rfl rfl (Eff.append (a := some ⟨b7, 0, none⟩) (E := boolE) rfl rfl rfl rfl rfl (by first | rfl | simp) (by decide) (by simp; omega) (by simp; omega) hn1) ?_
  rintro _ _ ⟨a12, c12, rfl, rfl⟩
  refine JO.pur rfl rfl rfl (Pur.fieldAddr rfl) ?_
  refine JO.effN rfl rfl (Eff.storeB rfl rfl rfl (.tail .head)) ?_
  rintro _ _ ⟨rfl, rfl⟩
  refine JO.nil ?_
  refine J.seq rfl ?_
  refine J.region rfl ?_
  refine JO.eff rfl rfl rfl (Eff.buildSlice boolE [] rfl rfl rfl rfl rfl rfl rfl) ?_
  rintro _ _ ⟨b14, rfl, -, rfl⟩
  refine JO.pur rfl rfl rfl (Pur.move rfl) ?_
  refine JO.pur rfl rfl rfl (Pur.nilCheck rfl) ?_
  refine JO.pur rfl rfl rfl (Pur.fieldAddr rfl) ?_
  refine JO.pur rfl rfl rfl (Pur.load rfl (CellIn.blk rfl)) ?_
  refine JO.eff rfl rfl rfl (Eff.append (a := some ⟨b14, 0, none⟩) (E := boolE) rfl rfl rfl rfl rfl (by first | rfl | simp) (by decide) (by simp; omega) (by simp; omega) hn2) ?_
  rintro _ _ ⟨a19, c19, rfl, rfl⟩
  refine JO.pur rfl rfl rfl (Pur.fieldAddr rfl) ?_
  refine JO.effN rfl rfl (Eff.storeB rfl rfl rfl (.tail (.tail .head))) ?_
  rintro _ _ ⟨rfl, rfl⟩
  refine JO.nil ?_
  refine J.seq rfl ?_
  refine J.region rfl ?_
  refine JO.eff rfl rfl rfl (Eff.buildSlice intE [] rfl rfl rfl rfl rfl rfl rfl) ?_
  rintro _ _ ⟨b21, rfl, -, rfl⟩
  refine JO.pur rfl rfl rfl (Pur.move rfl) ?_
  refine JO.pur rfl rfl rfl (Pur.nilCheck rfl) ?_
  refine JO.pur rfl rfl rfl (Pur.fieldAddr rfl) ?_
  refine JO.pur rfl rfl rfl (Pur.load rfl (CellIn.blk rfl)) ?_
  refine JO.eff rfl rfl rfl (Eff.append (a := some ⟨b21, 0, none⟩) (E := intE) rfl rfl rfl rfl rfl (by first | rfl | simp) (by decide) (by simp; omega) (by simp; omega) hn3) ?_
  rintro _ _ ⟨a26, c26, rfl, rfl⟩
  refine JO.pur rfl rfl rfl (Pur.fieldAddr rfl) ?_
  refine JO.effN rfl rfl (Eff.storeB rfl rfl rfl (.tail (.tail (.tail .head)))) ?_
  rintro _ _ ⟨rfl, rfl⟩
  refine JO.nil ?_
  refine J.seq rfl ?_
  refine J.region rfl ?_
  refine JO.eff rfl rfl rfl (Eff.buildSlice pairE [] rfl rfl rfl rfl rfl rfl rfl) ?_
  rintro _ _ ⟨b28, rfl, -, rfl⟩
  refine JO.pur rfl rfl rfl (Pur.move rfl) ?_
  refine JO.pur rfl rfl rfl (Pur.nilCheck rfl) ?_
  refine JO.pur rfl rfl rfl (Pur.fieldAddr rfl) ?_
  refine JO.pur rfl rfl rfl (Pur.load rfl (CellIn.blk rfl)) ?_
  refine JO.eff rfl rfl rfl (Eff.append (a := some ⟨b28, 0, none⟩) (E := pairE) rfl rfl rfl rfl rfl (by first | rfl | simp) (by decide) (by simp; omega) (by simp; omega) hn4) ?_
  rintro _ _ ⟨a33, c33, rfl, rfl⟩
  refine JO.pur rfl rfl rfl (Pur.fieldAddr rfl) ?_
  refine JO.effN rfl rfl (Eff.storeB rfl rfl rfl (.tail (.tail (.tail (.tail .head))))) ?_
  rintro _ _ ⟨rfl, rfl⟩
  refine JO.nil ?_
  refine J.seq rfl ?_
  refine J.region rfl ?_
  refine JO.pur rfl rfl rfl (Pur.assign rfl) ?_
  refine JO.nil ?_
  refine J.ret rfl rfl ?_
  refine ⟨_, _, ⟨_, ⟨b3, rfl, rfl⟩, rfl⟩, rfl, fun h hs => ?_⟩
  simp only [List.nil_append, List.length_nil, Nat.zero_add, List.length_map] at hs
  have hs := ref_shut (r := b3) (σ := σ) (Sat.pull (.tail (.tail (.tail (.tail .head)))) (Sat.pull (.tail (.tail (.tail .head))) (Sat.pull (.tail (.tail .head)) (Sat.pull (.tail .head) (Sat.pull .head hs))))) rfl rfl rfl rfl rfl rfl rfl
  exact hs.cons_imp (fun _ h => h) (fun h hs => ref_shut hs rfl rfl rfl rfl rfl rfl rfl)

end Go.Proofs.Ytnllgmfpejjcnaa
