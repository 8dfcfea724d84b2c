/-
  A part of the proof of the claim that this folder bears.
-/
import Derived.Test.YtoikjjpleonllaaPAB
/- The text G2. -/
set_option linter.unusedVariables false
set_option linter.unusedSimpArgs false
set_option maxRecDepth 10000
namespace Go.Proofs.Ytoikjjpleonllaa
open Go Go.KK Gr

theorem pOp_ok {L : List Asn} {op : ByteArray} {a b : Int} {la : Option Addr} {n cap : Nat} [SlIn intE L la [a, b]] (ho : okOp op) (hn : n = 2) :
    CallS Try.prog 91 [.string op, .slice la n cap].toArray L (fun v M => v = .tuple #[.int .i64 (opV op a b), .bool true, .int .i64 0] ∧ M = L) := by
  subst hn
  refine CallS.ent ?_
  refine CallS.enter Try.func91 rfl rfl rfl rfl rfl ?_
  refine J.seq rfl ?_
  refine J.region rfl ?_
  refine JO.pur rfl rfl rfl (Pur.assign rfl) ?_
  refine JO.pur rfl rfl rfl (Pur.assign rfl) ?_
  refine JO.pur rfl rfl rfl (Pur.assign rfl) ?_
  refine JO.nil ?_
  refine J.seq rfl ?_
  refine J.region rfl ?_
  refine JO.pur rfl rfl rfl (Pur.move rfl) ?_
  refine JO.effR rfl rfl rfl (Eff.call rfl (arity_ok ho)) ?_
  refine JO.pur rfl rfl rfl (Pur.assign rfl) ?_
  refine JO.nil ?_
  refine J.seq rfl ?_
  refine J.seq rfl ?_
  refine J.region rfl ?_
  refine JO.pur rfl rfl rfl (Pur.move rfl) ?_
  refine JO.pur rfl rfl rfl (Pur.eqlI rfl rfl) ?_
  refine JO.pur rfl rfl rfl (Pur.move rfl) ?_
  refine JO.setv (u' := .bool false) 12 rfl (congrArg Value.bool (decide_eq_false (by decide))) ?_
  refine JO.pur rfl rfl rfl (Pur.move rfl) ?_
  refine JO.pur rfl rfl rfl (Pur.len rfl) ?_
  refine JO.pur rfl rfl rfl (Pur.move rfl) ?_
  refine JO.pur rfl rfl rfl (Pur.neqI rfl rfl) ?_
  refine JO.pur rfl rfl rfl (Pur.pickF rfl rfl) ?_
  refine JO.nil ?_
  refine J.setv (u' := .bool false) 17 rfl (congrArg Value.bool (decide_eq_false (by simp))) ?_
  refine J.condF rfl rfl ?_
  refine J.skip rfl ?_
  refine J.seq rfl ?_
  refine J.region rfl ?_
  refine JO.pur rfl rfl rfl (Pur.move rfl) ?_
  refine JO.pur rfl rfl rfl (Pur.move rfl) ?_
  refine JO.effR rfl rfl rfl (Eff.call rfl (eOp_ok (a := a) (b := b) ho rfl)) ?_
  refine JO.pur rfl rfl rfl (Pur.move rfl) ?_
  refine JO.pur rfl rfl rfl (Pur.extract rfl rfl) ?_
  refine JO.pur rfl rfl rfl (Pur.extract rfl rfl) ?_
  refine JO.pur rfl rfl rfl (Pur.assign rfl) ?_
  refine JO.pur rfl rfl rfl (Pur.assign rfl) ?_
  refine JO.nil ?_
  refine J.seq rfl ?_
  refine J.region rfl ?_
  refine JO.pur rfl rfl rfl (Pur.move rfl) ?_
  refine JO.pur rfl rfl rfl (Pur.move rfl) ?_
  refine JO.pur rfl rfl rfl (Pur.assign rfl) ?_
  refine JO.pur rfl rfl rfl (Pur.assign rfl) ?_
  refine JO.pur rfl rfl rfl (Pur.assign rfl) ?_
  refine JO.nil ?_
  refine J.ret rfl rfl ?_
  refine ⟨_, _, ⟨rfl, rfl⟩, rfl, SubC.out⟩

theorem join_ok {L : List Asn} {p : Nat} {kind op : ByteArray} {root sent : Int} {am af : Option Addr} {n cm k cf : Nat} [hb : BlkIn L p (.cells #[.string kind, .string op, .int .i64 root, .slice am n cm, .slice af k cf, .int .i64 sent] 47)] {a b : Int} (ho : okOp op) :
    CallS Try.prog 82 [.pointer (some ⟨p, 0, none⟩), .int .i64 a, .int .i64 b].toArray L (fun v M => v = .int .i64 (opV op a b) ∧ M = L) := by
  refine CallS.ent ?_
  refine CallS.enter Try.func82 rfl rfl rfl rfl rfl ?_
  refine J.seq rfl ?_
  refine J.region rfl ?_
  refine JO.pur rfl rfl rfl (Pur.assign rfl) ?_
  refine JO.nil ?_
  refine J.seq rfl ?_
  refine J.region rfl ?_
  refine JO.pur rfl rfl rfl (Pur.move rfl) ?_
  refine JO.pur rfl rfl rfl (Pur.nilCheck rfl) ?_
  refine JO.pur rfl rfl rfl (Pur.fieldAddr rfl) ?_
  refine JO.pur rfl rfl rfl (Pur.load rfl (CellIn.blk rfl)) ?_
  refine JO.pur rfl rfl rfl (Pur.move rfl) ?_
  refine JO.pur rfl rfl rfl (Pur.move rfl) ?_
  refine JO.eff rfl rfl rfl (Eff.buildSlice intE [a, b] rfl rfl rfl rfl rfl rfl rfl) ?_
  rintro _ _ ⟨b17, rfl, -, rfl⟩
  refine JO.effR rfl rfl rfl (Eff.call rfl (pOp_ok (a := a) (b := b) ho rfl)) ?_
  refine JO.pur rfl rfl rfl (Pur.move rfl) ?_
  refine JO.pur rfl rfl rfl (Pur.extract rfl rfl) ?_
  refine JO.pur rfl rfl rfl (Pur.extract rfl rfl) ?_
  refine JO.pur rfl rfl rfl (Pur.extract rfl rfl) ?_
  refine JO.pur rfl rfl rfl (Pur.assign rfl) ?_
  refine JO.pur rfl rfl rfl (Pur.assign rfl) ?_
  refine JO.pur rfl rfl rfl (Pur.assign rfl) ?_
  refine JO.nil ?_
  refine J.seq rfl ?_
  refine J.region rfl ?_
  refine JO.pur rfl rfl rfl (Pur.move rfl) ?_
  refine JO.pur rfl rfl rfl (Pur.assign rfl) ?_
  refine JO.nil ?_
  refine J.ret rfl rfl ?_
  refine ⟨_, _, ⟨rfl, rfl⟩, rfl, SubC.out⟩

theorem put_ok {L : List Asn} {p : Nat} {am : Option Addr} {cm : Nat} {bs : List Nat} {g : Gs} {m : Ms} (hf : g.fly.length ≤ 1000000) :
    CallS Try.prog 84 [.pointer (some ⟨p, 0, none⟩), .agg #[.int .i64 (m.fr : Int), .int .i64 (m.to : Int), .int .i64 m.v, .bool m.up, .int .i64 (m.rd : Int)]].toArray (GB p am cm bs g :: L) (fun v M => v = .tuple #[] ∧ M = GB p am cm bs (put g m) :: L) := by
  refine CallS.ent ?_
  refine CallS.enter Try.func84 rfl rfl rfl rfl rfl ?_
  refine GB_open fun af cf hb => ?_
  refine J.seq rfl ?_
  refine J.region rfl ?_
  refine JO.eff rfl rfl rfl (Eff.box (cs := [_, _, _, _, _]) rfl rfl) ?_
  rintro _ _ ⟨b3, rfl, rfl⟩
  refine JO.nil ?_
  refine J.seq rfl ?_
  refine J.mask0 (n := 11) [7, 10] rfl Try.mixed rfl (by kernel_rfl) ?_
  refine JM.takeF 0 (.inr (fun _ h => h)) rfl (by kernel_rfl) rfl rfl rfl (m' := 1) rfl (Pur.move rfl) ?_
  refine JM.take 1 (fun _ h => h) rfl (by kernel_rfl) rfl rfl rfl (m' := 3) rfl (Pur.move rfl) ?_
  refine JM.take 2 (fun _ h => h) rfl (by kernel_rfl) rfl rfl rfl (m' := 7) rfl (Pur.nilCheck rfl) ?_
  refine JM.take 3 (fun _ h => h) rfl (by kernel_rfl) rfl rfl rfl (m' := 15) rfl (Pur.fieldAddr rfl) ?_
  refine JM.take 4 (fun _ h => h) rfl (by kernel_rfl) rfl rfl rfl (m' := 31) rfl (Pur.load rfl (CellIn.blk rfl)) ?_
  refine JM.take 5 (fun _ h => h) rfl (by kernel_rfl) rfl rfl rfl (m' := 63) rfl (Pur.loadA rfl rfl rfl CellsIn.blk) ?_
  refine JM.one (i := 6) (by kernel_rfl) ?_
  refine JMi.eff rfl rfl rfl rfl (m' := 127) rfl (Eff.buildSlice msgE [m] rfl rfl rfl rfl rfl rfl rfl) ?_
  rintro _ _ ⟨b10, rfl, -, rfl⟩
  refine ⟨.inr (fun _ h => h.tail), ?_⟩
  refine JM.one (i := 7) (by kernel_rfl) ?_
  refine JMi.eff rfl rfl rfl rfl (m' := 255) rfl (Eff.append rfl rfl rfl rfl (by first | rfl | omega | (simp; done) | (simp; omega)) (by first | rfl | omega | (simp; done) | (simp; omega)) (by decide) (by simp; omega) (by simp; omega) (fun h => by cases h)) ?_
  rintro _ _ ⟨a11, c11, rfl, rfl⟩
  refine ⟨.inl (by simp), ?_⟩
  refine JM.takeF 8 (.inl (by kernel_rfl)) rfl (by kernel_rfl) rfl rfl rfl (m' := 511) rfl (Pur.nilCheck rfl) ?_
  refine JM.takeF 9 (.inl (by kernel_rfl)) rfl (by kernel_rfl) rfl rfl rfl (m' := 1023) rfl (Pur.fieldAddr rfl) ?_
  refine JM.one (i := 10) (by kernel_rfl) ?_
  refine JMi.effN rfl rfl rfl (m' := 2047) rfl (Eff.storeB rfl rfl rfl (.tail (.tail (.tail (.tail .head))))) ?_
  rintro _ _ ⟨rfl, rfl⟩
  refine ⟨.inl (by simp), ?_⟩
  refine JM.done rfl ?_
  refine J.region rfl ?_
  refine JO.pur rfl rfl rfl (Pur.move rfl) ?_
  refine JO.pur rfl rfl rfl (Pur.nilCheck rfl) ?_
  refine JO.pur rfl rfl rfl (Pur.fieldAddr rfl) ?_
  refine JO.pur rfl rfl rfl (Pur.load rfl (CellIn.blk rfl)) ?_
  refine JO.pur rfl rfl rfl (Pur.addW rfl rfl) ?_
  refine JO.pur rfl rfl rfl (Pur.nilCheck rfl) ?_
  refine JO.pur rfl rfl rfl (Pur.fieldAddr rfl) ?_
  refine JO.effN rfl rfl (Eff.storeB rfl rfl rfl (.tail (.tail (.tail (.tail (.tail .head)))))) ?_
  rintro _ _ ⟨rfl, rfl⟩
  refine JO.nil ?_
  refine J.fin rfl ?_
  refine ⟨_, _, ⟨rfl, rfl⟩, rfl, fun h s => ?_⟩
  have e : g.fly.length + 1 = (g.fly ++ [m]).length := by simp
  simp only [List.length_singleton] at s
  rw [e] at s
  have s2 : Sat h (blk p (.cells #[.string g.kind, .string g.op, .int .i64 g.root, .slice am g.ms.length cm, .slice a11 (g.fly ++ [m]).length c11, .int .i64 (IntKind.i64.wrap (g.sent + 1))] 47) :: sl memE am cm (g.ms.zip bs) :: sl msgE a11 c11 (g.fly ++ [m]) :: star (List.zipWith mpA bs g.ms) :: L) := SubC.out h s
  exact GB_mk (g := put g m) hb s2

theorem send_ok {L : List Asn} {p : Nat} {am : Option Addr} {cm : Nat} {bs : List Nat} {g : Gs} {i : Nat} (hw : wf g) (hi : i < g.ms.length) (hf : g.fly.length ≤ 1000000) :
    CallS Try.prog 79 [.pointer (some ⟨p, 0, none⟩), .int .i64 (i : Int)].toArray (GB p am cm bs g :: L) (fun v M => v = .tuple #[] ∧ M = GB p am cm bs (send g i) :: L) := by
  have hr3 := hw.2.2.1 _ (mem_mem hi)
  have hp8 := pow_le hr3
  have hn8 := hw.2.1
  obtain ⟨w, hw2⟩ : ∃ w, w = 2 ^ (mem g i).r := ⟨_, rfl⟩
  rw [← hw2] at hp8
  refine CallS.ent ?_
  refine CallS.enter Try.func79 rfl rfl rfl rfl rfl ?_
  refine GB_open fun af cf hb => ?_
  obtain ⟨b, hbi⟩ : ∃ b, bs[i]? = some b := ⟨_, List.getElem?_eq_getElem (by omega)⟩
  have hzm := zip_get (mem_get hi) hbi
  refine J.seq rfl ?_
  refine J.region rfl ?_
  refine JO.pur rfl rfl rfl (Pur.move rfl) ?_
  refine JO.pur rfl rfl rfl (Pur.nilCheck rfl) ?_
  refine JO.pur rfl rfl rfl (Pur.fieldAddr rfl) ?_
  refine JO.pur rfl rfl rfl (Pur.load rfl (CellIn.blk rfl)) ?_
  refine JO.pur rfl rfl rfl (Pur.move rfl) ?_
  refine JO.pur rfl rfl rfl (Pur.idx rfl rfl rfl (by first | rfl | (simp; done) | omega | (rw [List.length_zip]; omega)) rfl (by rw [List.length_zip]; omega)) ?_
  refine JO.pur rfl rfl rfl (Pur.loadA rfl rfl rfl (CellsIn.el rfl hzm)) ?_
  refine JO.setv (u' := memV ((mem g i), b)) 12 rfl rfl ?_
  refine JO.eff rfl rfl rfl (Eff.alloc (cs := [_, _, _, _, _]) rfl) ?_
  rintro _ _ ⟨b4, rfl, rfl⟩
  refine JO.effN rfl rfl (Eff.storeBA (cs' := [_, _, _, _, _]) rfl rfl (by rfl) (by rfl) (by rfl)) ?_
  rintro _ _ ⟨rfl, rfl⟩
  refine JO.nil ?_
  refine J.seq rfl ?_
  refine J.region rfl ?_
  refine JO.pur rfl rfl rfl (Pur.move rfl) ?_
  refine JO.pur rfl rfl rfl (Pur.fieldAddr rfl) ?_
  refine JO.pur rfl rfl rfl (Pur.load rfl (CellIn.blk rfl)) ?_
  refine JO.setv (u' := .int .i64 ((mem g i).r : Int)) 15 rfl rfl ?_
  refine JO.pur rfl rfl rfl (Pur.shl rfl rfl rfl (by omega) (shl_ok hr3)) ?_
  refine JO.setv (u' := .int .i64 (w : Int)) 16 rfl (congrArg (Value.int .i64) (by rw [hw2]; exact shl_nat _)) ?_
  refine JO.pur rfl rfl rfl (Pur.add rfl rfl (wr64 (by omega))) ?_
  refine JO.setv (u' := .int .i64 ((i + w : Nat) : Int)) 17 rfl rfl ?_
  refine JO.pur rfl rfl rfl (Pur.assign rfl) ?_
  refine JO.nil ?_
  refine J.seq rfl ?_
  refine J.region rfl ?_
  refine JO.pur rfl rfl rfl (Pur.move rfl) ?_
  refine JO.pur rfl rfl rfl (Pur.move rfl) ?_
  refine JO.pur rfl rfl rfl (Pur.nilCheck rfl) ?_
  refine JO.pur rfl rfl rfl (Pur.fieldAddr rfl) ?_
  refine JO.pur rfl rfl rfl (Pur.load rfl (CellIn.blk rfl)) ?_
  refine JO.pur rfl rfl rfl (Pur.len rfl) ?_
  refine JO.pur rfl rfl rfl (Pur.lss rfl rfl) ?_
  refine JO.nil ?_
  refine J.splitB 24 rfl (fun h24 => ?_) (fun h24 => ?_)
  · try simp only [decide_eq_true_eq, decide_eq_false_iff_not, Bool.not_eq_true', Bool.not_eq_false', Bool.and_eq_true, Bool.or_eq_true, Bool.and_eq_false_iff, Bool.or_eq_false_iff, Option.isNone_some, Option.isSome_some, Option.isNone_none, Option.isSome_none, Int.not_lt, Int.not_le, beq_iff_eq, beq_eq_false_iff_ne, bne_iff_ne, ne_eq, Bool.not_not, Decidable.not_not] at h24
    have hlt : i + w < g.ms.length := by omega
    refine J.condT rfl rfl ?_
    refine J.region rfl ?_
    refine JO.pur rfl rfl rfl (Pur.move rfl) ?_
    refine JO.pur rfl rfl rfl (Pur.move rfl) ?_
    refine JO.pur rfl rfl rfl (Pur.move rfl) ?_
    refine JO.pur rfl rfl rfl (Pur.fieldAddr rfl) ?_
    refine JO.pur rfl rfl rfl (Pur.load rfl (CellIn.blk rfl)) ?_
    refine JO.setv (u' := .int .i64 (mem g i).v) 29 rfl rfl ?_
    refine JO.pur rfl rfl rfl (Pur.fieldAddr rfl) ?_
    refine JO.pur rfl rfl rfl (Pur.load rfl (CellIn.blk rfl)) ?_
    refine JO.setv (u' := .int .i64 ((mem g i).r : Int)) 31 rfl rfl ?_
    refine JO.pur rfl rfl rfl (Pur.build (cs := [_, _, _, _, _]) rfl rfl) ?_
    refine JO.imp (M := GB p am cm bs g :: L) (fun h s => GB_mk (af := af) (cf := cf) hb (SubC.out (M := blk p (gC g.kind g.op g.root am g.ms.length cm af g.fly.length cf g.sent) :: sl memE am cm (g.ms.zip bs) :: sl msgE af cf g.fly :: star (List.zipWith mpA bs g.ms) :: L) h s)) ?_
    refine JO.eff rfl rfl rfl (Eff.call rfl (put_ok (m := ⟨i, i + w, (mem g i).v, false, (mem g i).r⟩) hf)) ?_
    rintro _ _ ⟨rfl, rfl⟩
    refine JO.nil ?_
    refine J.fin rfl ?_
    refine ⟨_, _, ⟨rfl, rfl⟩, rfl, fun h s => ?_⟩
    unfold send; rw [← hw2, if_pos hlt]
    exact SubC.out h s
  · try simp only [decide_eq_true_eq, decide_eq_false_iff_not, Bool.not_eq_true', Bool.not_eq_false', Bool.and_eq_true, Bool.or_eq_true, Bool.and_eq_false_iff, Bool.or_eq_false_iff, Option.isNone_some, Option.isSome_some, Option.isNone_none, Option.isSome_none, Int.not_lt, Int.not_le, beq_iff_eq, beq_eq_false_iff_ne, bne_iff_ne, ne_eq, Bool.not_not, Decidable.not_not] at h24
    have hge : ¬ i + w < g.ms.length := by omega
    refine J.condF rfl rfl ?_
    refine J.skip rfl ?_
    refine J.fin rfl ?_
    refine ⟨_, _, ⟨rfl, rfl⟩, rfl, fun h s => ?_⟩
    unfold send; rw [← hw2, if_neg hge]
    exact GB_mk (af := af) (cf := cf) hb (SubC.out (M := blk p (gC g.kind g.op g.root am g.ms.length cm af g.fly.length cf g.sent) :: sl memE am cm (g.ms.zip bs) :: sl msgE af cf g.fly :: star (List.zipWith mpA bs g.ms) :: L) h s)

theorem none_ok {L : List Asn} {p : Nat} {kind op : ByteArray} {root sent : Int} {am af : Option Addr} {n cm k cf : Nat} [hb : BlkIn L p (.cells #[.string kind, .string op, .int .i64 root, .slice am n cm, .slice af k cf, .int .i64 sent] 47)] :
    CallS Try.prog 53 [.pointer (some ⟨p, 0, none⟩)].toArray L (fun v M => v = .bool (decide (n = 0)) ∧ M = L) := by
  refine CallS.ent ?_
  refine CallS.enter Try.func53 rfl rfl rfl rfl rfl ?_
  refine J.seq rfl ?_
  refine J.region rfl ?_
  refine JO.pur rfl rfl rfl (Pur.assign rfl) ?_
  refine JO.nil ?_
  refine J.seq rfl ?_
  refine J.region rfl ?_
  refine JO.pur rfl rfl rfl (Pur.move rfl) ?_
  refine JO.pur rfl rfl rfl (Pur.eqlPtrNil rfl) ?_
  refine JO.pur rfl rfl rfl (Pur.move rfl) ?_
  refine JO.setv (u' := .bool false) 5 rfl (congrArg Value.bool (rfl)) ?_
  refine JO.pur rfl rfl rfl (Pur.move rfl) ?_
  refine JO.pur rfl rfl rfl (Pur.nilCheck rfl) ?_
  refine JO.pur rfl rfl rfl (Pur.fieldAddr rfl) ?_
  refine JO.pur rfl rfl rfl (Pur.load rfl (CellIn.blk rfl)) ?_
  refine JO.pur rfl rfl rfl (Pur.len rfl) ?_
  refine JO.pur rfl rfl rfl (Pur.eqlI rfl rfl) ?_
  refine JO.pur rfl rfl rfl (Pur.pickF rfl rfl) ?_
  refine JO.pur rfl rfl rfl (Pur.assign rfl) ?_
  refine JO.nil ?_
  refine J.ret rfl rfl ?_
  refine ⟨_, _, ⟨rfl, rfl⟩, congrArg Value.bool (decide_eq_decide.2 (by omega)), SubC.out⟩

end Go.Proofs.Ytoikjjpleonllaa

/- The text G3. -/
set_option linter.unusedVariables false
set_option linter.unusedSimpArgs false
set_option maxRecDepth 10000
namespace Go.Proofs.Ytoikjjpleonllaa
open Go Go.KK Gr

theorem scan_ok {L : List Asn} {p : Nat} {am : Option Addr} {cm : Nat} {bs : List Nat} {g : Gs} {i N : Nat} (hw : wf g) (hi0 : i < N) (hN : N = g.ms.length) (ho : okOp g.op) (hfb : g.fly.length + 4 ≤ 1000000) :
    CallS Try.prog 55 [.pointer (some ⟨p, 0, none⟩), .int .i64 (i : Int)].toArray (GB p am cm bs g :: L) (fun v M => v = .tuple #[] ∧ M = GB p am cm bs (scan 4 g i) :: L) := by
  refine CallS.ent ?_
  refine CallS.enter Try.func55 rfl rfl rfl rfl rfl ?_
  refine GB_open fun af cf hb => ?_
  refine J.seq rfl ?_
  refine J.region rfl ?_
  refine JO.pur rfl rfl rfl (Pur.move rfl) ?_
  refine JO.pur rfl rfl rfl (Pur.nilCheck rfl) ?_
  refine JO.pur rfl rfl rfl (Pur.fieldAddr rfl) ?_
  refine JO.pur rfl rfl rfl (Pur.load rfl (CellIn.blk rfl)) ?_
  refine JO.pur rfl rfl rfl (Pur.move rfl) ?_
  refine JO.pur rfl rfl rfl (Pur.idx rfl rfl rfl (by first | rfl | (simp; done) | omega | (rw [List.length_zip]; omega) | (rw [List.length_zip, List.length_set]; omega)) rfl (by rw [List.length_zip]; omega)) ?_
  refine JO.pur rfl rfl rfl (Pur.assign rfl) ?_
  refine JO.nil ?_
  refine J.seq rfl ?_
  refine J.block rfl ?_
  refine J.loopF (ι := Nat × Gs) (fun q => wf q.2 ∧ q.2.ms.length = N ∧ scan q.1 q.2 i = scan 4 g i ∧ 4 ≤ (mem q.2 i).r + q.1 ∧ okOp q.2.op ∧ q.2.fly.length + q.1 ≤ g.fly.length + 4) (fun q => []) [(0, _), (1, _), (4, _)] (fun q => GB p am cm bs q.2 :: L) (fun q => q.1) (4, g) rfl (.cons rfl rfl (.cons rfl rfl (.cons rfl rfl .nil))) .nil (fun h s => GB_mk (af := af) (cf := cf) hb (SubC.out (M := blk p (gC g.kind g.op g.root am g.ms.length cm af g.fly.length cf g.sent) :: sl memE am cm (g.ms.zip bs) :: sl msgE af cf g.fly :: star (List.zipWith mpA bs g.ms) :: L) h s)) ⟨hw, hN.symm, rfl, by dsimp only; omega, ho, Nat.le_refl _⟩ ?_
  rintro ⟨f, X⟩ ⟨hw, hn, hsc, hf4, ho, hfl⟩ ihf
  try dsimp only
  dsimp only at hw hn hsc hf4 ho hfl
  clear hb
  refine GB_open fun af cf hb => ?_
  have hi : i < X.ms.length := by omega
  have hr3 := hw.2.2.1 _ (mem_mem hi)
  have hp8 := pow_le hr3
  have hn8 := hw.2.1
  obtain ⟨w, hw2⟩ : ∃ w, w = 2 ^ (mem X i).r := ⟨_, rfl⟩
  rw [← hw2] at hp8
  obtain ⟨f, rfl⟩ : ∃ f', f = f' + 1 := ⟨f - 1, by omega⟩
  obtain ⟨b, hbi⟩ : ∃ b, bs[i]? = some b := ⟨_, List.getElem?_eq_getElem (by omega)⟩
  have hzm := zip_get (mem_get hi) hbi
  refine J.imp (fun h s => mp_take hbi (mem_get hi) (SubC.out (M := star (List.zipWith mpA bs X.ms) :: blk p (gC X.kind X.op X.root am X.ms.length cm af X.fly.length cf X.sent) :: sl memE am cm (X.ms.zip bs) :: sl msgE af cf X.fly :: L) h s)) ?_
  refine J.seq rfl ?_
  refine J.seq rfl ?_
  refine J.mask0 (n := 11) [] rfl Try.mixed rfl (by kernel_rfl) ?_
  refine JM.take 0 (fun _ h => h) rfl (by kernel_rfl) rfl rfl rfl (m' := 1) rfl (Pur.move rfl) ?_
  refine JM.take 1 (fun _ h => h) rfl (by kernel_rfl) rfl rfl rfl (m' := 3) rfl (Pur.nilCheck rfl) ?_
  refine JM.take 2 (fun _ h => h) rfl (by kernel_rfl) rfl rfl rfl (m' := 7) rfl (Pur.fieldAddr rfl) ?_
  refine JM.take 3 (fun _ h => h) rfl (by kernel_rfl) rfl rfl rfl (m' := 15) rfl (Pur.load rfl (CellIn.el rfl hzm rfl)) ?_
  refine JM.setv (u' := .int .i64 ((mem X i).r : Int)) 16 rfl rfl ?_
  refine JM.take 4 (fun _ h => h) rfl (by kernel_rfl) rfl rfl rfl (m' := 31) rfl (Pur.shl rfl rfl rfl (by omega) (shl_ok hr3)) ?_
  refine JM.setv (u' := .int .i64 (w : Int)) 17 rfl (congrArg (Value.int .i64) (by rw [hw2]; exact shl_nat _)) ?_
  refine JM.take 5 (fun _ h => h) rfl (by kernel_rfl) rfl rfl rfl (m' := 63) rfl (Pur.move rfl) ?_
  refine JM.take 6 (fun _ h => h) rfl (by kernel_rfl) rfl rfl rfl (m' := 127) rfl (Pur.nilCheck rfl) ?_
  refine JM.take 7 (fun _ h => h) rfl (by kernel_rfl) rfl rfl rfl (m' := 255) rfl (Pur.fieldAddr rfl) ?_
  refine JM.take 8 (fun _ h => h) rfl (by kernel_rfl) rfl rfl rfl (m' := 511) rfl (Pur.load rfl (CellIn.blk rfl)) ?_
  refine JM.take 9 (fun _ h => h) rfl (by kernel_rfl) rfl rfl rfl (m' := 1023) rfl (Pur.len rfl) ?_
  refine JM.take 10 (fun _ h => h) rfl (by kernel_rfl) rfl rfl rfl (m' := 2047) rfl (Pur.lss rfl rfl) ?_
  refine JM.done rfl ?_
  refine J.splitB 23 rfl (fun h23 => ?_) (fun h23 => ?_)
  · try simp only [decide_eq_true_eq, decide_eq_false_iff_not, Bool.not_eq_true', Bool.not_eq_false', Bool.and_eq_true, Bool.or_eq_true, Bool.and_eq_false_iff, Bool.or_eq_false_iff, Option.isNone_some, Option.isSome_some, Option.isNone_none, Option.isSome_none, Int.not_lt, Int.not_le, beq_iff_eq, beq_eq_false_iff_ne, bne_iff_ne, ne_eq, Bool.not_not, Decidable.not_not] at h23
    have hrn : 2 ^ (mem X i).r < X.ms.length := by rw [← hw2]; omega
    refine J.condT rfl rfl ?_
    refine J.skip rfl ?_
    refine J.block rfl ?_
    refine J.seq rfl ?_
    refine J.seq rfl ?_
    refine J.region rfl ?_
    refine JO.pur rfl rfl rfl (Pur.move rfl) ?_
    refine JO.pur rfl rfl rfl (Pur.move rfl) ?_
    refine JO.pur rfl rfl rfl (Pur.nilCheck rfl) ?_
    refine JO.pur rfl rfl rfl (Pur.fieldAddr rfl) ?_
    refine JO.pur rfl rfl rfl (Pur.load rfl (CellIn.el rfl hzm rfl)) ?_
    refine JO.setv (u' := .int .i64 ((mem X i).r : Int)) 28 rfl rfl ?_
    refine JO.pur rfl rfl rfl (Pur.shl rfl rfl rfl (by omega) (shl_ok hr3)) ?_
    refine JO.setv (u' := .int .i64 (w : Int)) 29 rfl (congrArg (Value.int .i64) (by rw [hw2]; exact shl_nat _)) ?_
    refine JO.pur rfl rfl rfl (Pur.geq rfl rfl) ?_
    refine JO.nil ?_
    refine J.splitB 30 rfl (fun h30 => ?_) (fun h30 => ?_)
    · try simp only [decide_eq_true_eq, decide_eq_false_iff_not, Bool.not_eq_true', Bool.not_eq_false', Bool.and_eq_true, Bool.or_eq_true, Bool.and_eq_false_iff, Bool.or_eq_false_iff, Option.isNone_some, Option.isSome_some, Option.isNone_none, Option.isSome_none, Int.not_lt, Int.not_le, beq_iff_eq, beq_eq_false_iff_ne, bne_iff_ne, ne_eq, Bool.not_not, Decidable.not_not] at h30
      have hpi : 2 ^ (mem X i).r ≤ i := by rw [← hw2]; omega
      refine J.condT rfl rfl ?_
      refine J.seq rfl ?_
      refine J.mask0 (n := 14) [] rfl Try.mixed rfl (by kernel_rfl) ?_
      refine JM.take 0 (fun _ h => h) rfl (by kernel_rfl) rfl rfl rfl (m' := 1) rfl (Pur.move rfl) ?_
      refine JM.take 1 (fun _ h => h) rfl (by kernel_rfl) rfl rfl rfl (m' := 3) rfl (Pur.nilCheck rfl) ?_
      refine JM.take 2 (fun _ h => h) rfl (by kernel_rfl) rfl rfl rfl (m' := 7) rfl (Pur.fieldAddr rfl) ?_
      refine JM.take 3 (fun _ h => h) rfl (by kernel_rfl) rfl rfl rfl (m' := 15) rfl (Pur.load rfl (CellIn.el rfl hzm rfl)) ?_
      refine JM.setv (u' := .map (some b)) 35 rfl rfl ?_
      refine JM.take 4 (fun _ h => h) rfl (by kernel_rfl) rfl rfl rfl (m' := 31) rfl (Pur.move rfl) ?_
      refine JM.take 5 (fun _ h => h) rfl (by kernel_rfl) rfl rfl rfl (m' := 63) rfl (Pur.nilCheck rfl) ?_
      refine JM.take 6 (fun _ h => h) rfl (by kernel_rfl) rfl rfl rfl (m' := 127) rfl (Pur.fieldAddr rfl) ?_
      refine JM.take 7 (fun _ h => h) rfl (by kernel_rfl) rfl rfl rfl (m' := 255) rfl (Pur.load rfl (CellIn.el rfl hzm rfl)) ?_
      refine JM.setv (u' := .int .i64 ((mem X i).r : Int)) 39 rfl rfl ?_
      refine JM.take 8 (fun _ h => h) rfl (by kernel_rfl) rfl rfl rfl (m' := 511) rfl (Pur.lookupOk (K := intK) (m := kvs (mem X i).got) (k := ((mem X i).r : Int)) rfl rfl) ?_
      rw [kvs_look]
      refine JM.take 9 (fun _ h => h) rfl (by kernel_rfl) rfl rfl rfl (m' := 1023) rfl (Pur.move rfl) ?_
      refine JM.take 10 (fun _ h => h) rfl (by kernel_rfl) rfl rfl rfl (m' := 2047) rfl (Pur.extract rfl rfl) ?_
      refine JM.take 11 (fun _ h => h) rfl (by kernel_rfl) rfl rfl rfl (m' := 4095) rfl (Pur.extract rfl rfl) ?_
      refine JM.take 12 (fun _ h => h) rfl (by kernel_rfl) rfl rfl rfl (m' := 8191) rfl (Pur.assign rfl) ?_
      refine JM.take 13 (fun _ h => h) rfl (by kernel_rfl) rfl rfl rfl (m' := 16383) rfl (Pur.assign rfl) ?_
      refine JM.done rfl ?_
      refine J.seq rfl ?_
      refine J.seq rfl ?_
      refine J.region rfl ?_
      refine JO.pur rfl rfl rfl (Pur.move rfl) ?_
      refine JO.pur rfl rfl rfl (Pur.not rfl) ?_
      refine JO.nil ?_
      refine J.splitB 44 rfl (fun h44 => ?_) (fun h44 => ?_)
      · try simp only [decide_eq_true_eq, decide_eq_false_iff_not, Bool.not_eq_true', Bool.not_eq_false', Bool.and_eq_true, Bool.or_eq_true, Bool.and_eq_false_iff, Bool.or_eq_false_iff, Option.isNone_some, Option.isSome_some, Option.isNone_none, Option.isSome_none, Int.not_lt, Int.not_le, beq_iff_eq, beq_eq_false_iff_ne, bne_iff_ne, ne_eq, Bool.not_not, Decidable.not_not] at h44
        have hlk : lookI (mem X i).got ((mem X i).r : Int) = none := by simpa using h44
        refine J.condT rfl rfl ?_
        refine J.ret rfl rfl ?_
        refine ⟨_, _, ⟨rfl, rfl⟩, rfl, fun h s => ?_⟩
        rw [← hsc, scan_wait hrn hpi hlk]
        have s3 := mp_put (m' := mem X i) hbi (mem_get hi) (SubC.out (M := mp intK b (kvs (mem X i).got) :: zwBut mpA i bs X.ms :: blk p (gC X.kind X.op X.root am X.ms.length cm af X.fly.length cf X.sent) :: sl memE am cm (X.ms.zip bs) :: sl msgE af cf X.fly :: L) h s)
        rw [set_same (mem_get hi)] at s3
        exact GB_mk (af := af) (cf := cf) hb (SubC.out (M := blk p (gC X.kind X.op X.root am X.ms.length cm af X.fly.length cf X.sent) :: sl memE am cm (X.ms.zip bs) :: sl msgE af cf X.fly :: star (List.zipWith mpA bs X.ms) :: L) h s3)
      · try simp only [decide_eq_true_eq, decide_eq_false_iff_not, Bool.not_eq_true', Bool.not_eq_false', Bool.and_eq_true, Bool.or_eq_true, Bool.and_eq_false_iff, Bool.or_eq_false_iff, Option.isNone_some, Option.isSome_some, Option.isNone_none, Option.isSome_none, Int.not_lt, Int.not_le, beq_iff_eq, beq_eq_false_iff_ne, bne_iff_ne, ne_eq, Bool.not_not, Decidable.not_not] at h44
        obtain ⟨z, hlk⟩ : ∃ z, lookI (mem X i).got ((mem X i).r : Int) = some z := Option.isSome_iff_exists.1 (by simpa using h44)
        refine J.condF rfl rfl ?_
        refine J.skip rfl ?_
        refine J.region rfl ?_
        refine JO.pur rfl rfl rfl (Pur.move rfl) ?_
        refine JO.pur rfl rfl rfl (Pur.move rfl) ?_
        refine JO.pur rfl rfl rfl (Pur.move rfl) ?_
        refine JO.setv (u' := .int .i64 z) 47 rfl (by rw [hlk]; rfl) ?_
        refine JO.pur rfl rfl rfl (Pur.move rfl) ?_
        refine JO.pur rfl rfl rfl (Pur.nilCheck rfl) ?_
        refine JO.pur rfl rfl rfl (Pur.fieldAddr rfl) ?_
        refine JO.pur rfl rfl rfl (Pur.load rfl (CellIn.el rfl hzm rfl)) ?_
        refine JO.setv (u' := .int .i64 (mem X i).v) 51 rfl rfl ?_
        refine JO.effR rfl rfl rfl (Eff.call rfl (join_ok (a := z) (b := (mem X i).v) ho)) ?_
        refine JO.pur rfl rfl rfl (Pur.nilCheck rfl) ?_
        refine JO.pur rfl rfl rfl (Pur.fieldAddr rfl) ?_
        obtain ⟨m1, hm1⟩ : ∃ m1 : Mm, m1 = { mem X i with v := opV X.op z (mem X i).v } := ⟨_, rfl⟩
        refine JO.setv (u' := .int .i64 m1.v) 52 rfl (by rw [hm1]) ?_
        have hm1r : m1.r = (mem X i).r := by rw [hm1]
        have hm1g : m1.got = (mem X i).got := by rw [hm1]
        have hm1h : m1.has = (mem X i).has := by rw [hm1]
        have hm1s : m1.res = (mem X i).res := by rw [hm1]
        have hsn : scan (f + 1) X i = scan f (send (setM X i { m1 with r := m1.r + 1 }) i) i := by rw [hm1]; exact scan_some hi hrn hpi hlk
        refine JO.effN rfl rfl (Eff.storeS (z' := ({ mem X i with v := m1.v }, b)) rfl rfl rfl rfl hzm .head) ?_
        rintro _ _ ⟨rfl, rfl⟩
        rw [show ({ mem X i with v := m1.v } : Mm) = m1 by rw [hm1], zip_set hbi]
        refine JO.nil ?_
        refine J.seq rfl ?_
        have hzm1 : ((X.ms.set i m1).zip bs)[i]? = some (m1, b) := zip_get (by rw [List.getElem?_set]; simp [hi]) hbi
        obtain ⟨m2, hm2⟩ : ∃ m2 : Mm, m2 = { m1 with r := m1.r + 1 } := ⟨_, rfl⟩
        have hm2r : m2.r = m1.r + 1 := by rw [hm2]
        have hm2g : m2.got = (mem X i).got := by rw [hm2]; exact hm1g
        have hr2 := r_lt hw hi hrn
        have hw3 : wf (setM X i m2) := wf_set hw (by omega)
        rw [← hm2] at hsn
        have hnext : scan f (send (setM X i m2) i) i = scan 4 g i := by rw [← hsn]; exact hsc
        refine J.region rfl ?_
        refine JO.pur rfl rfl rfl (Pur.move rfl) ?_
        refine JO.pur rfl rfl rfl (Pur.nilCheck rfl) ?_
        refine JO.pur rfl rfl rfl (Pur.fieldAddr rfl) ?_
        refine JO.pur rfl rfl rfl (Pur.load rfl (CellIn.el rfl hzm1 rfl)) ?_
        refine JO.setv (u' := .int .i64 (m1.r : Int)) 58 rfl rfl ?_
        refine JO.pur rfl rfl rfl (Pur.add rfl rfl (wr64 (by omega))) ?_
        refine JO.setv (u' := .int .i64 (m2.r : Int)) 59 rfl (congrArg (Value.int .i64) (by omega)) ?_
        refine JO.pur rfl rfl rfl (Pur.nilCheck rfl) ?_
        refine JO.pur rfl rfl rfl (Pur.fieldAddr rfl) ?_
        refine JO.effN rfl rfl (Eff.storeS (z' := ({ m1 with r := m2.r }, b)) rfl rfl rfl rfl hzm1 (.tail .head)) ?_
        rintro _ _ ⟨rfl, rfl⟩
        rw [show ({ m1 with r := m2.r } : Mm) = m2 by rw [hm2], zip_set hbi, List.set_set]
        refine JO.nil ?_
        refine J.region rfl ?_
        refine JO.pur rfl rfl rfl (Pur.move rfl) ?_
        refine JO.pur rfl rfl rfl (Pur.move rfl) ?_
        rw [← hm2g]
        refine JO.imp (M := GB p am cm bs (setM X i m2) :: L) (fun h s => by have s2 : Sat h (mp intK b (kvs m2.got) :: zwBut mpA i bs X.ms :: blk p (gC X.kind X.op X.root am X.ms.length cm af X.fly.length cf X.sent) :: sl memE am cm ((X.ms.set i m2).zip bs) :: sl msgE af cf X.fly :: L) := SubC.out h s; have s3 := mp_put (m' := m2) hbi (mem_get hi) s2; have s4 : Sat h (blk p (gC X.kind X.op X.root am X.ms.length cm af X.fly.length cf X.sent) :: sl memE am cm ((X.ms.set i m2).zip bs) :: sl msgE af cf X.fly :: star (List.zipWith mpA bs (X.ms.set i m2)) :: L) := SubC.out h s3; have e9 : X.ms.length = (X.ms.set i m2).length := (by simp); rw [e9] at s4; exact GB_mk (g := setM X i m2) (by rw [set_len]; exact hb) s4) ?_
        refine JO.eff rfl rfl rfl (Eff.call rfl (send_ok (g := setM X i m2) hw3 (by rw [set_len]; exact hi) (by show X.fly.length ≤ 1000000; omega))) ?_
        rintro _ _ ⟨rfl, rfl⟩
        refine JO.nil ?_
        refine J.inBlock ?_
        exact J.weaken (.cons rfl rfl (.cons rfl rfl (.cons rfl rfl .nil))) (fun h s => by dsimp only; exact SubC.out h s) (ihf (f, send (setM X i m2) i) ⟨wf_send hw3 (by rw [set_len]; exact hi), by rw [send_len, set_len]; exact hn, hnext, by dsimp only; rw [send_mem, mem_set hi]; omega, by dsimp only; rw [(send_op _ _).1]; exact ho, by have := send_fly (setM X i m2) i; have e : (setM X i m2).fly.length = X.fly.length := rfl; dsimp only; omega⟩ (by dsimp only; omega))
    · try simp only [decide_eq_true_eq, decide_eq_false_iff_not, Bool.not_eq_true', Bool.not_eq_false', Bool.and_eq_true, Bool.or_eq_true, Bool.and_eq_false_iff, Bool.or_eq_false_iff, Option.isNone_some, Option.isSome_some, Option.isNone_none, Option.isSome_none, Int.not_lt, Int.not_le, beq_iff_eq, beq_eq_false_iff_ne, bne_iff_ne, ne_eq, Bool.not_not, Decidable.not_not] at h30
      have hpi : ¬ 2 ^ (mem X i).r ≤ i := by rw [← hw2]; omega
      obtain ⟨m1, hm1⟩ : ∃ m1, m1 = mem X i := ⟨_, rfl⟩
      have hs1 : X.ms.set i m1 = X.ms := by rw [hm1]; exact set_same (mem_get hi)
      refine J.imp (M := mp intK b (kvs (mem X i).got) :: zwBut mpA i bs X.ms :: blk p (gC X.kind X.op X.root am X.ms.length cm af X.fly.length cf X.sent) :: sl memE am cm ((X.ms.set i m1).zip bs) :: sl msgE af cf X.fly :: L) (fun h s => by rw [hs1]; exact SubC.out h s) ?_
      have hm1r : m1.r = (mem X i).r := by rw [hm1]
      have hm1g : m1.got = (mem X i).got := by rw [hm1]
      have hsn : scan (f + 1) X i = scan f (send (setM X i { m1 with r := m1.r + 1 }) i) i := by rw [hm1]; exact scan_go hrn hpi
      refine J.condF rfl rfl ?_
      refine J.skip rfl ?_
      refine J.seq rfl ?_
      have hzm1 : ((X.ms.set i m1).zip bs)[i]? = some (m1, b) := zip_get (by rw [List.getElem?_set]; simp [hi]) hbi
      obtain ⟨m2, hm2⟩ : ∃ m2 : Mm, m2 = { m1 with r := m1.r + 1 } := ⟨_, rfl⟩
      have hm2r : m2.r = m1.r + 1 := by rw [hm2]
      have hm2g : m2.got = (mem X i).got := by rw [hm2]; exact hm1g
      have hr2 := r_lt hw hi hrn
      have hw3 : wf (setM X i m2) := wf_set hw (by omega)
      rw [← hm2] at hsn
      have hnext : scan f (send (setM X i m2) i) i = scan 4 g i := by rw [← hsn]; exact hsc
      refine J.region rfl ?_
      refine JO.pur rfl rfl rfl (Pur.move rfl) ?_
      refine JO.pur rfl rfl rfl (Pur.nilCheck rfl) ?_
      refine JO.pur rfl rfl rfl (Pur.fieldAddr rfl) ?_
      refine JO.pur rfl rfl rfl (Pur.load rfl (CellIn.el rfl hzm1 rfl)) ?_
      refine JO.setv (u' := .int .i64 (m1.r : Int)) 58 rfl rfl ?_
      refine JO.pur rfl rfl rfl (Pur.add rfl rfl (wr64 (by omega))) ?_
      refine JO.setv (u' := .int .i64 (m2.r : Int)) 59 rfl (congrArg (Value.int .i64) (by omega)) ?_
      refine JO.pur rfl rfl rfl (Pur.nilCheck rfl) ?_
      refine JO.pur rfl rfl rfl (Pur.fieldAddr rfl) ?_
      refine JO.effN rfl rfl (Eff.storeS (z' := ({ m1 with r := m2.r }, b)) rfl rfl rfl rfl hzm1 (.tail .head)) ?_
      rintro _ _ ⟨rfl, rfl⟩
      rw [show ({ m1 with r := m2.r } : Mm) = m2 by rw [hm2], zip_set hbi, List.set_set]
      refine JO.nil ?_
      refine J.region rfl ?_
      refine JO.pur rfl rfl rfl (Pur.move rfl) ?_
      refine JO.pur rfl rfl rfl (Pur.move rfl) ?_
      rw [← hm2g]
      refine JO.imp (M := GB p am cm bs (setM X i m2) :: L) (fun h s => by have s2 : Sat h (mp intK b (kvs m2.got) :: zwBut mpA i bs X.ms :: blk p (gC X.kind X.op X.root am X.ms.length cm af X.fly.length cf X.sent) :: sl memE am cm ((X.ms.set i m2).zip bs) :: sl msgE af cf X.fly :: L) := SubC.out h s; have s3 := mp_put (m' := m2) hbi (mem_get hi) s2; have s4 : Sat h (blk p (gC X.kind X.op X.root am X.ms.length cm af X.fly.length cf X.sent) :: sl memE am cm ((X.ms.set i m2).zip bs) :: sl msgE af cf X.fly :: star (List.zipWith mpA bs (X.ms.set i m2)) :: L) := SubC.out h s3; have e9 : X.ms.length = (X.ms.set i m2).length := (by simp); rw [e9] at s4; exact GB_mk (g := setM X i m2) (by rw [set_len]; exact hb) s4) ?_
      refine JO.eff rfl rfl rfl (Eff.call rfl (send_ok (g := setM X i m2) hw3 (by rw [set_len]; exact hi) (by show X.fly.length ≤ 1000000; omega))) ?_
      rintro _ _ ⟨rfl, rfl⟩
      refine JO.nil ?_
      refine J.inBlock ?_
      exact J.weaken (.cons rfl rfl (.cons rfl rfl (.cons rfl rfl .nil))) (fun h s => by dsimp only; exact SubC.out h s) (ihf (f, send (setM X i m2) i) ⟨wf_send hw3 (by rw [set_len]; exact hi), by rw [send_len, set_len]; exact hn, hnext, by dsimp only; rw [send_mem, mem_set hi]; omega, by dsimp only; rw [(send_op _ _).1]; exact ho, by have := send_fly (setM X i m2) i; have e : (setM X i m2).fly.length = X.fly.length := rfl; dsimp only; omega⟩ (by dsimp only; omega))
  · try simp only [decide_eq_true_eq, decide_eq_false_iff_not, Bool.not_eq_true', Bool.not_eq_false', Bool.and_eq_true, Bool.or_eq_true, Bool.and_eq_false_iff, Bool.or_eq_false_iff, Option.isNone_some, Option.isSome_some, Option.isNone_none, Option.isSome_none, Int.not_lt, Int.not_le, beq_iff_eq, beq_eq_false_iff_ne, bne_iff_ne, ne_eq, Bool.not_not, Decidable.not_not] at h23
    have hrn : ¬ 2 ^ (mem X i).r < X.ms.length := by rw [← hw2]; omega
    refine J.condF rfl rfl ?_
    refine J.exit rfl rfl ?_
    refine J.region rfl ?_
    refine JO.pur rfl rfl rfl (Pur.move rfl) ?_
    refine JO.pur rfl rfl rfl (Pur.move rfl) ?_
    refine JO.pur rfl rfl rfl (Pur.move rfl) ?_
    refine JO.pur rfl rfl rfl (Pur.nilCheck rfl) ?_
    refine JO.pur rfl rfl rfl (Pur.fieldAddr rfl) ?_
    refine JO.pur rfl rfl rfl (Pur.load rfl (CellIn.el rfl hzm rfl)) ?_
    refine JO.setv (u' := .int .i64 (mem X i).v) 70 rfl rfl ?_
    refine JO.pur rfl rfl rfl (Pur.nilCheck rfl) ?_
    refine JO.pur rfl rfl rfl (Pur.fieldAddr rfl) ?_
    try rw [zip_set hbi]
    have hzr : ((X.ms.set i { mem X i with res := (mem X i).v }).zip bs)[i]? = some ({ mem X i with res := (mem X i).v }, b) := zip_get (by rw [List.getElem?_set]; simp [hi]) hbi
    refine JO.effN rfl rfl (Eff.storeS (z' := ({ mem X i with res := (mem X i).v }, b)) rfl rfl rfl rfl hzm (.tail (.tail (.tail (.tail .head))))) ?_
    rintro _ _ ⟨rfl, rfl⟩
    refine JO.pur rfl rfl rfl (Pur.nilCheck rfl) ?_
    refine JO.pur rfl rfl rfl (Pur.fieldAddr rfl) ?_
    try rw [zip_set hbi]
    have hzr : ((X.ms.set i { mem X i with res := (mem X i).v }).zip bs)[i]? = some ({ mem X i with res := (mem X i).v }, b) := zip_get (by rw [List.getElem?_set]; simp [hi]) hbi
    refine JO.effN rfl rfl (Eff.storeS (z' := ({ mem X i with res := (mem X i).v, has := true }, b)) rfl rfl rfl rfl hzr (.tail (.tail (.tail .head)))) ?_
    rintro _ _ ⟨rfl, rfl⟩
    refine JO.nil ?_
    refine J.fin rfl ?_
    refine ⟨_, _, ⟨rfl, rfl⟩, rfl, fun h s => ?_⟩
    rw [← hsc, scan_end hrn]
    rw [zip_set hbi, List.set_set] at s
    have s3 := mp_put (m' := { mem X i with res := (mem X i).v, has := true }) hbi (mem_get hi) (SubC.out (M := mp intK b (kvs (mem X i).got) :: zwBut mpA i bs X.ms :: blk p (gC X.kind X.op X.root am X.ms.length cm af X.fly.length cf X.sent) :: sl memE am cm ((X.ms.set i { mem X i with res := (mem X i).v, has := true }).zip bs) :: sl msgE af cf X.fly :: L) h s)
    have s4 : Sat h (blk p (gC X.kind X.op X.root am X.ms.length cm af X.fly.length cf X.sent) :: sl memE am cm ((X.ms.set i { mem X i with res := (mem X i).v, has := true }).zip bs) :: sl msgE af cf X.fly :: star (List.zipWith mpA bs (X.ms.set i { mem X i with res := (mem X i).v, has := true })) :: L) := SubC.out h s3
    have e9 : X.ms.length = (X.ms.set i { mem X i with res := (mem X i).v, has := true }).length := by simp
    rw [e9] at s4
    exact GB_mk (g := setM X i { mem X i with res := (mem X i).v, has := true }) (by rw [set_len]; exact hb) s4

end Go.Proofs.Ytoikjjpleonllaa

/- The text G4. -/
set_option linter.unusedVariables false
set_option linter.unusedSimpArgs false
set_option maxRecDepth 10000
namespace Go.Proofs.Ytoikjjpleonllaa
open Go Go.KK Gr

theorem all_set {α : Type} {E : Enc α} {l : List α} {i : Nat} {x y : α} (h : l[i]? = some x) (he : E.enc y = E.enc x) : E.all (l.set i y) = E.all l := by
  unfold Enc.all
  rw [List.flatMap_def, List.flatMap_def, List.map_set, he]
  congr 1
  exact set_same (by rw [List.getElem?_map, h]; rfl)
theorem sl_same {α : Type} {E : Enc α} {a : Option Addr} {cap : Nat} {xs ys : List α} {h : Hp} (h1 : xs.length = ys.length) (h2 : E.all xs = E.all ys) (s : sl E a cap xs h) : sl E a cap ys h := by
  rcases sl_iff.1 s with ⟨a1, a2, a3⟩ | ⟨b, sp, a1, a2, a3, a4, a5⟩
  · exact sl_iff.2 (.inl ⟨a1, a2, List.eq_nil_of_length_eq_zero (by rw [← h1, a3]; rfl)⟩)
  · exact sl_iff.2 (.inr ⟨b, sp, a1, by omega, a3, by rw [← h1]; exact a4, by rw [← h2]; exact a5⟩)
theorem delM_core {R : List Asn} {a : Option Addr} {n cap : Nat} {xs : List Ms} {i j : Int} (i' j' : Nat) (hi : i = (i' : Int)) (hj : j = (j' : Int)) (hn : n = xs.length) (h1 : i' < j') (h2 : j' ≤ n) (hb : xs.length ≤ 1000000) :
    CallS Try.prog 54 [.slice a n cap, .int .i64 i, .int .i64 j].toArray (sl msgE a cap xs :: R) (fun v M => ∃ B, (v = .slice a (i' + (n - j')) cap ∧ B = sl msgE a cap (xs.take i' ++ xs.drop j')) ∧ M = B :: R) := by
  subst hi
  subst hj
  subst hn
  refine CallS.enter Try.func54 rfl rfl rfl rfl rfl ?_
  refine J.fact (fun h hs => SlH.le (a := a) hs) fun hcap => ?_
  refine J.seq rfl ?_
  refine J.region rfl ?_
  refine JO.pur rfl rfl rfl (Pur.assign rfl) ?_
  refine JO.nil ?_
  refine J.seq rfl ?_
  refine J.region rfl ?_
  refine JO.pur rfl rfl rfl (Pur.move rfl) ?_
  refine JO.pur rfl rfl rfl (Pur.move rfl) ?_
  refine JO.pur rfl rfl rfl (Pur.move rfl) ?_
  refine JO.pur rfl rfl rfl (Pur.move rfl) ?_
  refine JO.pur rfl rfl rfl (Pur.len rfl) ?_
  refine JO.pur rfl rfl rfl (Pur.slice3 rfl rfl rfl rfl rfl rfl rfl (by omega) (by omega) (by omega)) ?_
  refine JO.nil ?_
  refine J.seq rfl ?_
  refine J.seq rfl ?_
  refine J.region rfl ?_
  refine JO.pur rfl rfl rfl (Pur.move rfl) ?_
  refine JO.pur rfl rfl rfl (Pur.move rfl) ?_
  refine JO.pur rfl rfl rfl (Pur.eqlI rfl rfl) ?_
  refine JO.nil ?_
  refine J.setv (u' := .bool false) 16 rfl (congrArg Value.bool (decide_eq_false (by omega))) ?_
  refine J.condF rfl rfl ?_
  refine J.skip rfl ?_
  refine J.seq rfl ?_
  refine J.region rfl ?_
  refine JO.pur rfl rfl rfl (Pur.move rfl) ?_
  refine JO.pur rfl rfl rfl (Pur.len rfl) ?_
  refine JO.pur rfl rfl rfl (Pur.assign rfl) ?_
  refine JO.nil ?_
  refine J.seq rfl ?_
  refine J.mask1 (n := 8) [] rfl Try.mixed rfl (by kernel_rfl) ?_
  refine JM.take 0 (fun _ h => h.tail) rfl (by kernel_rfl) rfl rfl rfl (m' := 1) rfl (Pur.move rfl) ?_
  refine JM.take 1 (fun _ h => h.tail) rfl (by kernel_rfl) rfl rfl rfl (m' := 3) rfl (Pur.move rfl) ?_
  refine JM.take 2 (fun _ h => h.tail) rfl (by kernel_rfl) rfl rfl rfl (m' := 7) rfl (Pur.slice0 rfl rfl rfl (by omega)) ?_
  refine JM.take 3 (fun _ h => h.tail) rfl (by kernel_rfl) rfl rfl rfl (m' := 15) rfl (Pur.move rfl) ?_
  refine JM.take 4 (fun _ h => h.tail) rfl (by kernel_rfl) rfl rfl rfl (m' := 31) rfl (Pur.move rfl) ?_
  refine JM.take 5 (fun _ h => h.tail) rfl (by kernel_rfl) rfl rfl rfl (m' := 63) rfl (Pur.slice1 rfl rfl rfl (by omega) (by omega)) ?_
  refine JM.one (i := 6) (by kernel_rfl) ?_
  refine JMi.eff rfl rfl rfl rfl (m' := 127) rfl (Eff.deleteApp rfl rfl rfl rfl rfl (by omega) (by omega) (by omega)) ?_
  rintro _ _ ⟨rfl, rfl⟩
  refine ⟨.inr (fun _ h => h.tail), ?_⟩
  refine JM.take 7 (fun _ h => h.tail) rfl (by kernel_rfl) rfl rfl rfl (m' := 255) rfl (Pur.assign rfl) ?_
  refine JM.done rfl ?_
  refine J.seq rfl ?_
  refine J.region rfl ?_
  refine JO.pur rfl rfl rfl (Pur.move rfl) ?_
  refine JO.pur rfl rfl rfl (Pur.move rfl) ?_
  refine JO.pur rfl rfl rfl (Pur.len rfl) ?_
  refine JO.pur rfl rfl rfl (Pur.move rfl) ?_
  refine JO.pur rfl rfl rfl (Pur.slice2 rfl rfl rfl rfl rfl (by omega) (by omega)) ?_
  refine JO.effN rfl rfl (Eff.clearSpare rfl rfl rfl (by simp; omega) (by omega) (by decide)) ?_
  rintro _ _ ⟨rfl, rfl⟩
  refine JO.nil ?_
  refine J.seq rfl ?_
  refine J.region rfl ?_
  refine JO.pur rfl rfl rfl (Pur.move rfl) ?_
  refine JO.pur rfl rfl rfl (Pur.assign rfl) ?_
  refine JO.nil ?_
  refine J.ret rfl rfl ?_
  exact ⟨_, ⟨rfl, rfl⟩, rfl⟩

theorem delM {L : List Asn} {a : Option Addr} {n cap : Nat} {xs : List Ms} {f : Asn → List Asn} [hh : SlH msgE L a cap xs f] {i j : Int} (i' j' : Nat) (hi : i = (i' : Int)) (hj : j = (j' : Int)) (hn : n = xs.length) (h1 : i' < j') (h2 : j' ≤ n) (hb : xs.length ≤ 1000000) :
    CallS Try.prog 54 [.slice a n cap, .int .i64 i, .int .i64 j].toArray L (fun v M => ∃ B, (v = .slice a (i' + (n - j')) cap ∧ B = sl msgE a cap (xs.take i' ++ xs.drop j')) ∧ M = f B) :=
  CallS.at (fun R => delM_core i' j' hi hj hn h1 h2 hb) hh.out

end Go.Proofs.Ytoikjjpleonllaa
