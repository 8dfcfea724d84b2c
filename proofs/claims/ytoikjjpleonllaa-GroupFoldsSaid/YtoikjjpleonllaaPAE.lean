/-
  A part of the proof of the claim that this folder bears.
-/
import Derived.Test.YtoikjjpleonllaaPAD
import Derived.Test.YtoikjjpleonllaaKC
import Derived.Test.YtoikjjpleonllaaPAB
/- The text G6. -/
set_option linter.unusedVariables false
set_option linter.unusedSimpArgs false
set_option maxRecDepth 10000
namespace Go.Proofs.Ytoikjjpleonllaa
open Go Go.KK Gr

def ms0 (vs : List Int) : List Mm := vs.map fun v => ⟨v, 0, [], false, 0⟩
def newS (vs : List Int) : Gs := begS (scan0 vs) vs.length
theorem ms0_len (vs : List Int) : (ms0 vs).length = vs.length := by simp [ms0]
theorem take_get {α : Type} {l : List α} {k : Nat} {x : α} (h : l[k]? = some x) : l.take (k + 1) = l.take k ++ [x] := by
  rw [List.take_add_one, h]; rfl
theorem newS_ok {L : List Asn} {va : Option Addr} {n cap : Nat} {vs : List Int} [SlIn intE L va vs] (hn : n = vs.length) (h1 : 1 ≤ vs.length) (h8 : vs.length ≤ 8) :
    CallS Try.prog 10 [.string sScan, .string ⟨#[43]⟩, .int .i64 0, .slice va n cap].toArray L (fun v M => ∃ p am cm bs, v = .tuple #[.pointer (some ⟨p, 0, none⟩), .int .i64 0] ∧ M = GB p am cm bs (newS vs) :: L) := by
  subst hn
  refine CallS.ent ?_
  refine CallS.enter Try.func10 rfl rfl rfl rfl rfl ?_
  refine J.seq rfl ?_
  refine J.region rfl ?_
  refine JO.pur rfl rfl rfl (Pur.assign rfl) ?_
  refine JO.pur rfl rfl rfl (Pur.assign rfl) ?_
  refine JO.nil ?_
  refine J.seq rfl ?_
  refine J.region rfl ?_
  refine JO.pur rfl rfl rfl (Pur.move rfl) ?_
  refine JO.effR rfl rfl rfl (Eff.call rfl (pNone_ok (t := ⟨#[43]⟩))) ?_
  rw [if_pos (by decide)]
  refine JO.pur rfl rfl rfl (Pur.move rfl) ?_
  refine JO.pur rfl rfl rfl (Pur.extract rfl rfl) ?_
  refine JO.pur rfl rfl rfl (Pur.extract rfl rfl) ?_
  refine JO.pur rfl rfl rfl (Pur.assign rfl) ?_
  refine JO.pur rfl rfl rfl (Pur.assign rfl) ?_
  refine JO.nil ?_
  refine J.seq rfl ?_
  refine J.region rfl ?_
  refine JO.pur rfl rfl rfl (Pur.move rfl) ?_
  refine JO.pur rfl rfl rfl (Pur.len rfl) ?_
  refine JO.pur rfl rfl rfl (Pur.assign rfl) ?_
  refine JO.nil ?_
  refine J.seq rfl ?_
  refine J.seq rfl ?_
  refine J.region rfl ?_
  refine JO.pur rfl rfl rfl (Pur.move rfl) ?_
  refine JO.effR rfl rfl rfl (Eff.call rfl (isKind_ok (t := sScan))) ?_
  refine JO.setv (u' := .bool true) 26 rfl (congrArg Value.bool (by decide)) ?_
  refine JO.pur rfl rfl rfl (Pur.not rfl) ?_
  refine JO.pur rfl rfl rfl (Pur.move rfl) ?_
  refine JO.pur rfl rfl rfl (Pur.move rfl) ?_
  refine JO.pur rfl rfl rfl (Pur.neqI rfl rfl) ?_
  refine JO.pur rfl rfl rfl (Pur.pickF rfl rfl) ?_
  refine JO.pur rfl rfl rfl (Pur.move rfl) ?_
  refine JO.setv (u' := .bool false) 32 rfl (congrArg Value.bool (decide_eq_false (fun h => h rfl))) ?_
  refine JO.pur rfl rfl rfl (Pur.move rfl) ?_
  refine JO.effR rfl rfl rfl (Eff.call rfl (isSize_ok)) ?_
  refine JO.setv (u' := .bool true) 34 rfl (congrArg Value.bool (decide_eq_true (by omega))) ?_
  refine JO.pur rfl rfl rfl (Pur.not rfl) ?_
  refine JO.pur rfl rfl rfl (Pur.pickF rfl rfl) ?_
  refine JO.pur rfl rfl rfl (Pur.move rfl) ?_
  refine JO.pur rfl rfl rfl (Pur.move rfl) ?_
  refine JO.pur rfl rfl rfl (Pur.neqT rfl rfl) ?_
  refine JO.pur rfl rfl rfl (Pur.move rfl) ?_
  refine JO.setv (u' := .bool false) 40 rfl (congrArg Value.bool ((by decide))) ?_
  refine JO.no rfl rfl rfl ?_
  refine JO.no rfl rfl rfl ?_
  refine JO.no rfl rfl rfl ?_
  refine JO.no rfl rfl rfl ?_
  refine JO.no rfl rfl rfl ?_
  refine JO.no rfl rfl rfl ?_
  refine JO.no rfl rfl rfl ?_
  refine JO.pur rfl rfl rfl (Pur.pickF rfl rfl) ?_
  refine JO.pur rfl rfl rfl (Pur.pickF rfl rfl) ?_
  refine JO.nil ?_
  refine J.condF rfl rfl ?_
  refine J.skip rfl ?_
  refine J.seq rfl ?_
  refine J.region rfl ?_
  refine JO.pur rfl rfl rfl (Pur.move rfl) ?_
  refine JO.pur rfl rfl rfl (Pur.eqlT rfl rfl) ?_
  refine JO.pur rfl rfl rfl (Pur.move rfl) ?_
  refine JO.setv (u' := .bool false) 52 rfl (congrArg Value.bool ((by decide))) ?_
  refine JO.pur rfl rfl rfl (Pur.move rfl) ?_
  refine JO.pur rfl rfl rfl (Pur.eqlT rfl rfl) ?_
  refine JO.pur rfl rfl rfl (Pur.pickF rfl rfl) ?_
  refine JO.pur rfl rfl rfl (Pur.move rfl) ?_
  refine JO.setv (u' := .bool false) 56 rfl (congrArg Value.bool ((by decide))) ?_
  refine JO.pur rfl rfl rfl (Pur.move rfl) ?_
  refine JO.pur rfl rfl rfl (Pur.eqlT rfl rfl) ?_
  refine JO.pur rfl rfl rfl (Pur.pickF rfl rfl) ?_
  refine JO.pur rfl rfl rfl (Pur.assign rfl) ?_
  refine JO.nil ?_
  refine J.seq rfl ?_
  refine J.seq rfl ?_
  refine J.region rfl ?_
  refine JO.pur rfl rfl rfl (Pur.move rfl) ?_
  refine JO.pur rfl rfl rfl (Pur.move rfl) ?_
  refine JO.setv (u' := .bool true) 61 rfl (congrArg Value.bool ((by decide))) ?_
  refine JO.pur rfl rfl rfl (Pur.move rfl) ?_
  refine JO.pur rfl rfl rfl (Pur.eqlT rfl rfl) ?_
  refine JO.pur rfl rfl rfl (Pur.move rfl) ?_
  refine JO.setv (u' := .bool false) 64 rfl (congrArg Value.bool ((by decide))) ?_
  refine JO.pur rfl rfl rfl (Pur.move rfl) ?_
  refine JO.pur rfl rfl rfl (Pur.eqlT rfl rfl) ?_
  refine JO.pur rfl rfl rfl (Pur.pickF rfl rfl) ?_
  refine JO.pur rfl rfl rfl (Pur.pickT rfl rfl) ?_
  refine JO.pur rfl rfl rfl (Pur.move rfl) ?_
  refine JO.setv (u' := .bool false) 69 rfl (congrArg Value.bool ((by decide))) ?_
  refine JO.no rfl rfl rfl ?_
  refine JO.no rfl rfl rfl ?_
  refine JO.pur rfl rfl rfl (Pur.pickF rfl rfl) ?_
  refine JO.nil ?_
  refine J.condF rfl rfl ?_
  refine J.skip rfl ?_
  refine J.seq rfl ?_
  refine J.region rfl ?_
  refine JO.pur rfl rfl rfl (Pur.move rfl) ?_
  refine JO.pur rfl rfl rfl (Pur.move rfl) ?_
  refine JO.pur rfl rfl rfl (Pur.move rfl) ?_
  refine JO.pur rfl rfl rfl (Pur.build (cs := [_, _, _, _, _, _]) rfl rfl) ?_
  refine JO.eff rfl rfl rfl (Eff.box (cs := [_, _, _, _, _, _]) rfl rfl) ?_
  rintro _ _ ⟨b77, rfl, rfl⟩
  refine JO.pur rfl rfl rfl (Pur.assign rfl) ?_
  refine JO.nil ?_
  refine J.seq rfl ?_
  refine J.seq rfl ?_
  refine J.region rfl ?_
  refine JO.pur rfl rfl rfl (Pur.move rfl) ?_
  refine JO.pur rfl rfl rfl (Pur.len rfl) ?_
  refine JO.pur rfl rfl rfl (Pur.move rfl) ?_
  refine JO.nil ?_
  refine J.block rfl ?_
  refine J.loopF (ι := Nat × Option Addr × Nat × List Nat) (fun q => q.1 ≤ vs.length ∧ q.2.2.2.length = q.1) (fun q => [(80, .int .i64 (q.1 : Int))]) [(0, _), (14, _), (78, _), (79, _)] (fun q => blk b77 (.cells #[.string sScan, .string ⟨#[43]⟩, .int .i64 0, .slice q.2.1 q.1 q.2.2.1, .slice none 0 0, .int .i64 0] 47) :: sl memE q.2.1 q.2.2.1 ((ms0 (vs.take (q.1))).zip q.2.2.2) :: star (List.zipWith mpA q.2.2.2 (ms0 (vs.take (q.1)))) :: L) (fun q => vs.length - q.1) (0, none, 0, []) rfl (.cons rfl rfl (.cons rfl rfl (.cons rfl rfl (.cons rfl rfl .nil)))) (.cons rfl rfl .nil) (fun h s => by have s2 := sl_nil_new (E := memE) (zw_nil (A := mpA) s); have s3 : Sat h (blk b77 (.cells #[.string sScan, .string ⟨#[43]⟩, .int .i64 0, .slice none 0 0, .slice none 0 0, .int .i64 0] 47) :: sl memE none 0 [] :: star (List.zipWith mpA [] []) :: L) := SubC.out (L := sl memE none 0 [] :: star (List.zipWith mpA [] []) :: _) h s2; exact s3) ⟨Nat.zero_le _, rfl⟩ ?_
  rintro ⟨k, am, cm, bs⟩ ⟨hk, hbl⟩ ihk
  try dsimp only
  dsimp only at hk hbl
  have hml : (ms0 (vs.take k)).length = k := by rw [ms0_len, List.length_take]; omega
  have hzl : ((ms0 (vs.take k)).zip bs).length = k := by rw [List.length_zip]; omega
  refine J.seq rfl ?_
  refine J.region rfl ?_
  refine JO.pur rfl rfl rfl (Pur.lss rfl rfl) ?_
  refine JO.nil ?_
  refine J.seq rfl ?_
  refine J.splitB 81 rfl (fun h81 => ?_) (fun h81 => ?_)
  · try simp only [decide_eq_true_eq, decide_eq_false_iff_not, Bool.not_eq_true', Bool.not_eq_false', Bool.and_eq_true, Bool.or_eq_true, Bool.and_eq_false_iff, Bool.or_eq_false_iff, Option.isNone_some, Option.isSome_some, Option.isNone_none, Option.isSome_none, Int.not_lt, Int.not_le, beq_iff_eq, beq_eq_false_iff_ne, bne_iff_ne, ne_eq, Bool.not_not, Decidable.not_not] at h81
    have hkl : k < vs.length := by omega
    obtain ⟨x, hX⟩ : ∃ x, vs[k]? = some x := ⟨_, List.getElem?_eq_getElem hkl⟩
    have htk : vs.take (k + 1) = vs.take k ++ [x] := take_get hX
    have hms : ms0 (vs.take (k + 1)) = ms0 (vs.take k) ++ [⟨x, 0, [], false, 0⟩] := by rw [htk]; simp [ms0]
    refine J.condT rfl rfl ?_
    refine J.skip rfl ?_
    refine J.seq rfl ?_
    refine J.block rfl ?_
    refine J.seq rfl ?_
    refine J.region rfl ?_
    refine JO.pur rfl rfl rfl (Pur.idx rfl rfl rfl (by first | rfl | (simp; done) | omega) rfl (by omega)) ?_
    refine JO.pur rfl rfl rfl (Pur.load rfl (CellIn.el0 rfl hX rfl)) ?_
    refine JO.pur rfl rfl rfl (Pur.assign rfl) ?_
    refine JO.nil ?_
    refine J.region rfl ?_
    refine JO.pur rfl rfl rfl (Pur.move rfl) ?_
    refine JO.pur rfl rfl rfl (Pur.move rfl) ?_
    refine JO.pur rfl rfl rfl (Pur.nilCheck rfl) ?_
    refine JO.pur rfl rfl rfl (Pur.fieldAddr rfl) ?_
    refine JO.pur rfl rfl rfl (Pur.load rfl (CellIn.blk rfl)) ?_
    refine JO.pur rfl rfl rfl (Pur.move rfl) ?_
    refine JO.eff rfl rfl rfl (Eff.makeMap intK) ?_
    rintro _ _ ⟨b90, rfl, rfl⟩
    refine JO.pur rfl rfl rfl (Pur.build (cs := [_, _, _, _, _]) rfl rfl) ?_
    refine JO.eff rfl rfl rfl (Eff.buildSlice memE [((⟨x, 0, [], false, 0⟩ : Mm), b90)] rfl rfl rfl rfl rfl rfl rfl) ?_
    rintro _ _ ⟨b92, rfl, -, rfl⟩
    refine JO.eff rfl rfl rfl (Eff.append rfl rfl rfl rfl (by first | rfl | omega | (simp; done) | (simp; omega)) (by first | rfl | omega | (simp; done) | (simp; omega)) (by decide) (by rw [hzl]; simp; omega) (by rw [hzl]; simp; omega) (fun h => by cases h)) ?_
    rintro _ _ ⟨a93, c93, rfl, rfl⟩
    refine JO.setv (u' := .slice a93 (k + 1) c93) 93 rfl (by rw [hzl]; rfl) ?_
    have hzp : (ms0 (vs.take k) ++ [(⟨x, 0, [], false, 0⟩ : Mm)]).zip (bs ++ [b90]) = (ms0 (vs.take k)).zip bs ++ [(⟨x, 0, [], false, 0⟩, b90)] := by rw [List.zip_append (hml.trans hbl.symm)]; rfl
    refine JO.pur rfl rfl rfl (Pur.nilCheck rfl) ?_
    refine JO.pur rfl rfl rfl (Pur.fieldAddr rfl) ?_
    refine JO.effN rfl rfl (Eff.storeB rfl rfl rfl (.tail (.tail (.tail .head)))) ?_
    rintro _ _ ⟨rfl, rfl⟩
    refine JO.nil ?_
    refine J.inBlock ?_
    refine J.region rfl ?_
    refine JO.pur rfl rfl rfl (Pur.add rfl rfl (wr64 (by omega))) ?_
    refine JO.pur rfl rfl rfl (Pur.move rfl) ?_
    refine JO.nil ?_
    exact J.weaken (.cons rfl (congrArg (Value.int .i64) (by first | rfl | (dsimp only; omega))) (.cons rfl rfl (.cons rfl rfl (.cons rfl rfl (.cons rfl rfl .nil))))) (fun h s => by have s1 : Sat h (mp intK b90 [] :: star (List.zipWith mpA bs (ms0 (vs.take k))) :: blk b77 (.cells #[.string sScan, .string ⟨#[43]⟩, .int .i64 0, .slice a93 (k + 1) c93, .slice none 0 0, .int .i64 0] 47) :: sl memE a93 c93 ((ms0 (vs.take k)).zip bs ++ [((⟨x, 0, [], false, 0⟩ : Mm), b90)]) :: L) := SubC.out h s; have s2 : Sat h (mpA b90 ⟨x, 0, [], false, 0⟩ :: star (List.zipWith mpA bs (ms0 (vs.take k))) :: blk b77 (.cells #[.string sScan, .string ⟨#[43]⟩, .int .i64 0, .slice a93 (k + 1) c93, .slice none 0 0, .int .i64 0] 47) :: sl memE a93 c93 ((ms0 (vs.take k)).zip bs ++ [((⟨x, 0, [], false, 0⟩ : Mm), b90)]) :: L) := s1; have s3 := zw_snoc (A := mpA) (hbl.trans hml.symm) s2; dsimp only; rw [hms, hzp]; exact SubC.out h s3) (ihk (k + 1, a93, c93, bs ++ [b90]) ⟨by dsimp only; omega, by dsimp only; simp [hbl]⟩ (by dsimp only; omega))
  · try simp only [decide_eq_true_eq, decide_eq_false_iff_not, Bool.not_eq_true', Bool.not_eq_false', Bool.and_eq_true, Bool.or_eq_true, Bool.and_eq_false_iff, Bool.or_eq_false_iff, Option.isNone_some, Option.isSome_some, Option.isNone_none, Option.isSome_none, Int.not_lt, Int.not_le, beq_iff_eq, beq_eq_false_iff_ne, bne_iff_ne, ne_eq, Bool.not_not, Decidable.not_not] at h81
    have hke : k = vs.length := by omega
    subst hke
    rw [List.take_length]
    have hbl2 : bs.length = (scan0 vs).ms.length := by rw [hbl]; simp [scan0]
    refine J.condF rfl rfl ?_
    refine J.exit rfl rfl ?_
    refine J.seq rfl ?_
    refine J.seq rfl ?_
    refine J.region rfl ?_
    refine JO.pur rfl rfl rfl (Pur.move rfl) ?_
    refine JO.pur rfl rfl rfl (Pur.eqlT rfl rfl) ?_
    refine JO.nil ?_
    refine J.setv (u' := .bool false) 98 rfl (congrArg Value.bool ((by decide))) ?_
    refine J.condF rfl rfl ?_
    refine J.skip rfl ?_
    refine J.seq rfl ?_
    refine J.region rfl ?_
    refine JO.pur rfl rfl rfl (Pur.move rfl) ?_
    refine JO.imp (M := GB b77 am cm bs (scan0 vs) :: L) (fun h s => by have s2 := sl_nil_new (E := msgE) s; have s3 : Sat h (blk b77 (.cells #[.string sScan, .string ⟨#[43]⟩, .int .i64 0, .slice am vs.length cm, .slice none 0 0, .int .i64 0] 47) :: sl memE am cm ((ms0 vs).zip bs) :: sl msgE none 0 [] :: star (List.zipWith mpA bs (ms0 vs)) :: L) := SubC.out h s2; rw [← ms0_len vs] at s3; exact GB_mk (g := scan0 vs) (af := none) (cf := 0) hbl2 s3) ?_
    refine JO.eff rfl rfl rfl (Eff.call rfl (beginS_ok (g := scan0 vs) (wf_scan0 h1 h8) rfl (.inl rfl) (by show (0 : Nat) ≤ 1000; omega))) ?_
    rintro _ _ ⟨rfl, rfl⟩
    refine JO.nil ?_
    refine J.seq rfl ?_
    refine J.region rfl ?_
    refine JO.pur rfl rfl rfl (Pur.move rfl) ?_
    refine JO.pur rfl rfl rfl (Pur.assign rfl) ?_
    refine JO.pur rfl rfl rfl (Pur.assign rfl) ?_
    refine JO.nil ?_
    refine J.ret rfl rfl ?_
    refine ⟨_, _, ⟨b77, am, cm, bs, rfl, rfl⟩, rfl, fun h s => ?_⟩
    have e : begS (scan0 vs) (scan0 vs).ms.length = newS vs := by unfold newS; congr 1; simp [scan0]
    rw [e] at s
    exact SubC.out h s

abbrev aw0 : Gs := newS [1, 2, 3]
theorem aw_wf : wf aw0 := (begS_keep (wf_scan0 (vs := [1, 2, 3]) (by decide) (by decide)) 3 (by decide)).1
theorem aw_kind : aw0.kind = sScan ∧ okOp aw0.op := by
  obtain ⟨-, -, -, h4, h5, -⟩ := begS_keep (wf_scan0 (vs := [1, 2, 3]) (by decide) (by decide)) 3 (by decide)
  exact ⟨h5, by show okOp (begS _ 3).op; rw [h4]; exact .inl rfl⟩
theorem aw_pos : ∀ i, i < 3 → 0 < (dlvN aw0 i).fly.length := by decide +kernel
theorem aw_end : (dlvN aw0 3).fly = [] := by
  have h : (dlvN aw0 3).fly.length = 0 := by decide +kernel
  exact List.eq_nil_of_length_eq_zero h
theorem aw_len : aw0.fly.length ≤ 100 := by decide +kernel
theorem aw_res : resV (dlvN aw0 3) 2 = (6, 0) := by decide +kernel
theorem aw_sent : (dlvN aw0 3).sent = 3 := by decide +kernel
theorem awake_ok {L : List Asn} :
    CallS Try.prog 12 [].toArray L (fun v M => v = .bool true ∧ M = L) := by
  refine CallS.ent ?_
  refine CallS.enter Try.func12 rfl rfl rfl rfl rfl ?_
  refine J.seq rfl ?_
  refine J.region rfl ?_
  refine JO.pur rfl rfl rfl (Pur.assign rfl) ?_
  refine JO.nil ?_
  refine J.seq rfl ?_
  refine J.region rfl ?_
  refine JO.eff rfl rfl rfl (Eff.buildSlice intE [1, 2, 3] rfl rfl rfl rfl rfl rfl rfl) ?_
  rintro _ _ ⟨b8, rfl, -, rfl⟩
  refine JO.eff rfl rfl rfl (Eff.call rfl (newS_ok (vs := [1, 2, 3]) rfl (by decide) (by decide))) ?_
  rintro _ _ ⟨p, am, cm, bs, rfl, rfl⟩
  refine JO.pur rfl rfl rfl (Pur.move rfl) ?_
  refine JO.pur rfl rfl rfl (Pur.extract rfl rfl) ?_
  refine JO.pur rfl rfl rfl (Pur.extract rfl rfl) ?_
  refine JO.pur rfl rfl rfl (Pur.assign rfl) ?_
  refine JO.pur rfl rfl rfl (Pur.assign rfl) ?_
  refine JO.nil ?_
  refine J.seq rfl ?_
  refine J.seq rfl ?_
  refine J.region rfl ?_
  refine JO.pur rfl rfl rfl (Pur.move rfl) ?_
  refine JO.pur rfl rfl rfl (Pur.neqI rfl rfl) ?_
  refine JO.pur rfl rfl rfl (Pur.move rfl) ?_
  refine JO.setv (u' := .bool false) 14 rfl (congrArg Value.bool (decide_eq_false (fun h => h rfl))) ?_
  refine JO.pur rfl rfl rfl (Pur.move rfl) ?_
  refine JO.pur rfl rfl rfl (Pur.eqlPtrNil rfl) ?_
  refine JO.pur rfl rfl rfl (Pur.pickF rfl rfl) ?_
  refine JO.nil ?_
  refine J.setv (u' := .bool false) 17 rfl (congrArg Value.bool (rfl)) ?_
  refine J.condF rfl rfl ?_
  refine J.skip rfl ?_
  refine J.seq rfl ?_
  refine J.region rfl ?_
  refine JO.pur rfl rfl rfl (Pur.move rfl) ?_
  refine JO.eff rfl rfl rfl (Eff.call rfl (drainS_ok (g := aw0) (K := 3) aw_wf aw_kind.1 aw_kind.2 aw_pos aw_end (by have := aw_len; omega))) ?_
  rintro _ _ ⟨rfl, rfl⟩
  refine JO.pur rfl rfl rfl (Pur.move rfl) ?_
  refine JO.pur rfl rfl rfl (Pur.extract rfl rfl) ?_
  refine JO.pur rfl rfl rfl (Pur.extract rfl rfl) ?_
  refine JO.pur rfl rfl rfl (Pur.assign rfl) ?_
  refine JO.pur rfl rfl rfl (Pur.assign rfl) ?_
  refine JO.nil ?_
  refine J.seq rfl ?_
  refine J.region rfl ?_
  refine JO.pur rfl rfl rfl (Pur.move rfl) ?_
  refine JO.eff rfl rfl rfl (Eff.call rfl (result_ok (g := dlvN aw0 3) (q := 2) (dlvN_keep aw_wf 3 aw_pos).1)) ?_
  rintro _ _ ⟨rfl, rfl⟩
  rw [aw_res]
  refine JO.pur rfl rfl rfl (Pur.move rfl) ?_
  refine JO.pur rfl rfl rfl (Pur.extract rfl rfl) ?_
  refine JO.pur rfl rfl rfl (Pur.extract rfl rfl) ?_
  refine JO.pur rfl rfl rfl (Pur.assign rfl) ?_
  refine JO.pur rfl rfl rfl (Pur.assign rfl) ?_
  refine JO.nil ?_
  refine J.seq rfl ?_
  refine J.region rfl ?_
  refine JO.pur rfl rfl rfl (Pur.move rfl) ?_
  refine JO.pur rfl rfl rfl (Pur.eqlI rfl rfl) ?_
  refine JO.pur rfl rfl rfl (Pur.move rfl) ?_
  refine JO.setv (u' := .bool true) 30 rfl (congrArg Value.bool (decide_eq_true rfl)) ?_
  refine JO.pur rfl rfl rfl (Pur.move rfl) ?_
  refine JO.pur rfl rfl rfl (Pur.eqlI rfl rfl) ?_
  refine JO.pur rfl rfl rfl (Pur.pickT rfl rfl) ?_
  refine JO.pur rfl rfl rfl (Pur.move rfl) ?_
  refine JO.setv (u' := .bool true) 34 rfl (congrArg Value.bool (decide_eq_true rfl)) ?_
  refine JO.pur rfl rfl rfl (Pur.move rfl) ?_
  refine JO.pur rfl rfl rfl (Pur.eqlI rfl rfl) ?_
  refine JO.pur rfl rfl rfl (Pur.pickT rfl rfl) ?_
  refine JO.pur rfl rfl rfl (Pur.move rfl) ?_
  refine JO.setv (u' := .bool true) 38 rfl (congrArg Value.bool (decide_eq_true rfl)) ?_
  refine JO.pur rfl rfl rfl (Pur.move rfl) ?_
  refine JO.pur rfl rfl rfl (Pur.eqlI rfl rfl) ?_
  refine JO.pur rfl rfl rfl (Pur.pickT rfl rfl) ?_
  refine JO.pur rfl rfl rfl (Pur.move rfl) ?_
  refine JO.setv (u' := .bool true) 42 rfl (congrArg Value.bool (decide_eq_true rfl)) ?_
  refine JO.pur rfl rfl rfl (Pur.move rfl) ?_
  refine JO.eff rfl rfl rfl (Eff.call rfl (sent_ok (g := dlvN aw0 3) (dlvN_keep aw_wf 3 aw_pos).1)) ?_
  rintro _ _ ⟨rfl, rfl⟩
  rw [aw_sent]
  refine JO.pur rfl rfl rfl (Pur.eqlI rfl rfl) ?_
  refine JO.pur rfl rfl rfl (Pur.pickT rfl rfl) ?_
  refine JO.pur rfl rfl rfl (Pur.assign rfl) ?_
  refine JO.nil ?_
  refine J.ret rfl rfl ?_
  refine ⟨_, _, ⟨rfl, rfl⟩, rfl, SubC.out⟩

end Go.Proofs.Ytoikjjpleonllaa

/- The text G7. -/
set_option linter.unusedVariables false
set_option linter.unusedSimpArgs false
set_option maxRecDepth 10000
namespace Go.Proofs.Ytoikjjpleonllaa
open Go Go.KK Gr

def ptrE : Enc (Option Nat) := ⟨25, 1, fun o => [.pointer (o.map fun b => (⟨b, 0, none⟩ : Addr))], fun _ => rfl, fun s v h => by
  simp only [List.mem_cons, List.not_mem_nil, or_false] at h; rcases h with rfl; rfl⟩
end Go.Proofs.Ytoikjjpleonllaa

/- The text G8a. -/
set_option linter.unusedVariables false
set_option linter.unusedSimpArgs false
set_option maxRecDepth 10000
namespace Go.Proofs.Ytoikjjpleonllaa
open Go Go.KK Gr

theorem rank_ok {L : List Asn} {n root p : Nat} (hn : n ≤ 8) (hr : root < n) (hp : p < n) :
    CallS Try.prog 83 [.int .i64 (n : Int), .int .i64 (root : Int), .int .i64 (p : Int)].toArray L (fun v M => v = .int .i64 ((rk n root p : Nat) : Int) ∧ M = L) := by
  refine CallS.ent ?_
  refine CallS.enter Try.func83 rfl rfl rfl rfl rfl ?_
  refine J.seq rfl ?_
  refine J.region rfl ?_
  refine JO.pur rfl rfl rfl (Pur.assign rfl) ?_
  refine JO.nil ?_
  refine J.seq rfl ?_
  refine J.region rfl ?_
  refine JO.pur rfl rfl rfl (Pur.move rfl) ?_
  refine JO.pur rfl rfl rfl (Pur.move rfl) ?_
  refine JO.pur rfl rfl rfl (Pur.sub rfl rfl (wr64 (by omega))) ?_
  refine JO.pur rfl rfl rfl (Pur.move rfl) ?_
  refine JO.pur rfl rfl rfl (Pur.add rfl rfl (wr64 (by omega))) ?_
  refine JO.setv (u' := .int .i64 ((p + n - root : Nat) : Int)) 11 rfl (congrArg (Value.int .i64) (by omega)) ?_
  refine JO.pur rfl rfl rfl (Pur.move rfl) ?_
  refine JO.pur rfl rfl rfl (Pur.rem rfl rfl (by omega)) ?_
  refine JO.pur rfl rfl rfl (Pur.assign rfl) ?_
  refine JO.nil ?_
  refine J.ret rfl rfl ?_
  refine ⟨_, _, ⟨rfl, rfl⟩, congrArg (Value.int .i64) (tmodN _ _), SubC.out⟩

theorem parent_ok {L : List Asn} {n root p : Nat} (hn : n ≤ 8) (hr : root < n) (hp : p < n) (hne : p ≠ root) :
    CallS Try.prog 60 [.int .i64 (n : Int), .int .i64 (root : Int), .int .i64 (p : Int)].toArray L (fun v M => v = .int .i64 ((parP n root p : Nat) : Int) ∧ M = L) := by
  have hrl : rk n root p < n := rk_lt (by omega)
  refine CallS.ent ?_
  refine CallS.enter Try.func60 rfl rfl rfl rfl rfl ?_
  refine J.seq rfl ?_
  refine J.region rfl ?_
  refine JO.pur rfl rfl rfl (Pur.assign rfl) ?_
  refine JO.nil ?_
  refine J.seq rfl ?_
  refine J.region rfl ?_
  refine JO.pur rfl rfl rfl (Pur.move rfl) ?_
  refine JO.pur rfl rfl rfl (Pur.move rfl) ?_
  refine JO.pur rfl rfl rfl (Pur.move rfl) ?_
  refine JO.effR rfl rfl rfl (Eff.call rfl (rank_ok hn hr hp)) ?_
  refine JO.pur rfl rfl rfl (Pur.assign rfl) ?_
  refine JO.nil ?_
  refine J.seq rfl ?_
  have hrp := rk_pos n (by omega) root hr p hp hne
  refine J.region rfl ?_
  refine JO.pur rfl rfl rfl (Pur.move rfl) ?_
  refine JO.pur rfl rfl rfl (Pur.move rfl) ?_
  refine JO.pur rfl rfl rfl (Pur.sub rfl rfl (wr64 (by omega))) ?_
  refine JO.setv (u' := .int .i64 ((rk n root p - 1 : Nat) : Int)) 14 rfl (congrArg (Value.int .i64) (by omega)) ?_
  refine JO.pur rfl rfl rfl (Pur.andN rfl rfl rfl rfl (by omega) (by omega)) ?_
  have hab : rk n root p &&& (rk n root p - 1) ≤ rk n root p := Nat.and_le_left
  obtain ⟨ab, hab2⟩ : ∃ ab, ab = rk n root p &&& (rk n root p - 1) := ⟨_, rfl⟩
  rw [← hab2] at hab
  refine JO.setv (u' := .int .i64 (ab : Int)) 15 rfl (by rw [hab2]) ?_
  refine JO.pur rfl rfl rfl (Pur.move rfl) ?_
  refine JO.pur rfl rfl rfl (Pur.add rfl rfl (wr64 (by omega))) ?_
  refine JO.setv (u' := .int .i64 ((ab + root : Nat) : Int)) 17 rfl rfl ?_
  refine JO.pur rfl rfl rfl (Pur.move rfl) ?_
  refine JO.pur rfl rfl rfl (Pur.rem rfl rfl (by omega)) ?_
  refine JO.pur rfl rfl rfl (Pur.assign rfl) ?_
  refine JO.nil ?_
  refine J.ret rfl rfl ?_
  refine ⟨_, _, ⟨rfl, rfl⟩, congrArg (Value.int .i64) (by rw [tmodN, hab2]; rfl), SubC.out⟩

theorem children_ok {L : List Asn} {n root p : Nat} (hn : n ≤ 8) (hr : root < n) (hp : p < n) :
    CallS Try.prog 56 [.int .i64 (n : Int), .int .i64 (root : Int), .int .i64 (p : Int)].toArray L (fun v M => ∃ a' c', v = .slice a' (natI (chP n root p)).length c' ∧ M = sl intE a' c' (natI (chP n root p)) :: L) := by
  have hrl : rk n root p < n := rk_lt (by omega)
  refine CallS.ent ?_
  refine CallS.enter Try.func56 rfl rfl rfl rfl rfl ?_
  refine J.seq rfl ?_
  refine J.region rfl ?_
  refine JO.pur rfl rfl rfl (Pur.assign rfl) ?_
  refine JO.nil ?_
  refine J.seq rfl ?_
  refine J.region rfl ?_
  refine JO.pur rfl rfl rfl (Pur.move rfl) ?_
  refine JO.pur rfl rfl rfl (Pur.move rfl) ?_
  refine JO.pur rfl rfl rfl (Pur.move rfl) ?_
  refine JO.effR rfl rfl rfl (Eff.call rfl (rank_ok hn hr hp)) ?_
  refine JO.pur rfl rfl rfl (Pur.assign rfl) ?_
  refine JO.nil ?_
  refine J.seq rfl ?_
  refine J.region rfl ?_
  refine JO.pur rfl rfl rfl (Pur.assign rfl) ?_
  refine JO.nil ?_
  refine J.seq rfl ?_
  refine J.seq rfl ?_
  refine J.region rfl ?_
  refine JO.pur rfl rfl rfl (Pur.assign rfl) ?_
  refine JO.nil ?_
  refine J.block rfl ?_
  refine J.loopF (ι := Nat × Option Addr × Nat) (fun q => q.1 ≤ 3 ∧ chk n root (rk n root p) bitL = ((bitL.take (q.1)).map fun b => ((rk n root p) + b + root) % n) ++ chk n root (rk n root p) (bitL.drop q.1)) (fun q => [(8, .slice q.2.1 (natI ((bitL.take (q.1)).map fun b => ((rk n root p) + b + root) % n)).length q.2.2), (9, .int .i64 ((2 ^ q.1 : Nat) : Int))]) [(0, _), (1, _), (7, _)] (fun q => sl intE q.2.1 q.2.2 (natI ((bitL.take (q.1)).map fun b => ((rk n root p) + b + root) % n)) :: L) (fun q => 3 - q.1) (0, none, 0) rfl (.cons rfl rfl (.cons rfl rfl (.cons rfl rfl .nil))) (.cons rfl rfl (.cons rfl rfl .nil)) (fun h s => by have s2 := sl_nil_new (E := intE) s; exact s2) ⟨Nat.zero_le _, rfl⟩ ?_
  rintro ⟨k, a8, c8⟩ ⟨hk, hck⟩ ihk
  try dsimp only
  dsimp only at hk hck
  have hw8 := pow_le hk
  obtain ⟨w, hw⟩ : ∃ w, w = 2 ^ k := ⟨_, rfl⟩
  rw [← hw] at hw8 ⊢
  have hpl : (natI ((bitL.take (k)).map fun b => ((rk n root p) + b + root) % n)).length = k := by simp [natI, bitL]; omega
  refine J.seq rfl ?_
  refine J.seq rfl ?_
  refine J.region rfl ?_
  refine JO.pur rfl rfl rfl (Pur.move rfl) ?_
  refine JO.pur rfl rfl rfl (Pur.move rfl) ?_
  refine JO.pur rfl rfl rfl (Pur.add rfl rfl (wr64 (by omega))) ?_
  refine JO.pur rfl rfl rfl (Pur.move rfl) ?_
  refine JO.pur rfl rfl rfl (Pur.lss rfl rfl) ?_
  refine JO.pur rfl rfl rfl (Pur.move rfl) ?_
  refine JO.splitB 19 rfl (fun h19 => ?_) (fun h19 => ?_)
  · try simp only [decide_eq_true_eq, decide_eq_false_iff_not, Bool.not_eq_true', Bool.not_eq_false', Bool.and_eq_true, Bool.or_eq_true, Bool.and_eq_false_iff, Bool.or_eq_false_iff, Option.isNone_some, Option.isSome_some, Option.isNone_none, Option.isSome_none, Int.not_lt, Int.not_le, beq_iff_eq, beq_eq_false_iff_ne, bne_iff_ne, ne_eq, Bool.not_not, Decidable.not_not] at h19
    have hlt : (rk n root p) + w < n := by omega
    have hk3 : k < 3 := by
      rcases Nat.lt_or_ge k 3 with h | h
      · exact h
      · have : k = 3 := by omega
        rw [this] at hw; omega
    refine JO.pur rfl rfl rfl (Pur.move rfl) ?_
    refine JO.pur rfl rfl rfl (Pur.move rfl) ?_
    refine JO.pur rfl rfl rfl (Pur.andN rfl rfl rfl rfl (by omega) (by omega)) ?_
    refine JO.pur rfl rfl rfl (Pur.eqlI rfl rfl) ?_
    refine JO.pur rfl rfl rfl (Pur.pickT rfl rfl) ?_
    refine JO.nil ?_
    refine J.splitB 24 rfl (fun h24 => ?_) (fun h24 => ?_)
    · try simp only [decide_eq_true_eq, decide_eq_false_iff_not, Bool.not_eq_true', Bool.not_eq_false', Bool.and_eq_true, Bool.or_eq_true, Bool.and_eq_false_iff, Bool.or_eq_false_iff, Option.isNone_some, Option.isSome_some, Option.isNone_none, Option.isSome_none, Int.not_lt, Int.not_le, beq_iff_eq, beq_eq_false_iff_ne, bne_iff_ne, ne_eq, Bool.not_not, Decidable.not_not] at h24
      have hz : (rk n root p) &&& w = 0 := by omega
      have hbd := bit_drop k hk3
      rw [← hw] at hbd
      have hpre : ((bitL.take (k + 1)).map fun b => ((rk n root p) + b + root) % n) = ((bitL.take (k)).map fun b => ((rk n root p) + b + root) % n) ++ [((rk n root p) + w + root) % n] := by rw [take_get (bit_get k hk3), List.map_append, ← hw]; rfl
      have hck2 : chk n root (rk n root p) bitL = ((bitL.take (k + 1)).map fun b => ((rk n root p) + b + root) % n) ++ chk n root (rk n root p) (bitL.drop (k + 1)) := by rw [hck, hbd, chk_yes hlt hz, hpre, List.append_assoc]; rfl
      refine J.condT rfl rfl ?_
      refine J.skip rfl ?_
      refine J.seq rfl ?_
      refine J.block rfl ?_
      refine J.region rfl ?_
      refine JO.pur rfl rfl rfl (Pur.move rfl) ?_
      refine JO.pur rfl rfl rfl (Pur.move rfl) ?_
      refine JO.pur rfl rfl rfl (Pur.move rfl) ?_
      refine JO.pur rfl rfl rfl (Pur.add rfl rfl (wr64 (by omega))) ?_
      refine JO.pur rfl rfl rfl (Pur.move rfl) ?_
      refine JO.pur rfl rfl rfl (Pur.add rfl rfl (wr64 (by omega))) ?_
      refine JO.setv (u' := .int .i64 (((rk n root p) + w + root : Nat) : Int)) 32 rfl rfl ?_
      refine JO.pur rfl rfl rfl (Pur.move rfl) ?_
      refine JO.pur rfl rfl rfl (Pur.rem rfl rfl (by omega)) ?_
      refine JO.setv (u' := .int .i64 ((((rk n root p) + w + root) % n : Nat) : Int)) 34 rfl (congrArg (Value.int .i64) (tmodN _ _)) ?_
      refine JO.eff rfl rfl rfl (Eff.buildSlice intE [((((rk n root p) + w + root) % n : Nat) : Int)] rfl rfl rfl rfl rfl rfl rfl) ?_
      rintro _ _ ⟨b35, rfl, -, rfl⟩
      refine JO.eff rfl rfl rfl (Eff.append rfl rfl rfl rfl (by first | rfl | omega | (simp; done) | (simp; omega)) (by first | rfl | omega | (simp; done) | (simp; omega)) (by decide) (by rw [hpl]; simp; omega) (by rw [hpl]; simp; omega) (fun h => by cases h)) ?_
      rintro _ _ ⟨a36, c36, rfl, rfl⟩
      refine JO.pur rfl rfl rfl (Pur.assign rfl) ?_
      refine JO.nil ?_
      refine J.inBlock ?_
      refine J.region rfl ?_
      refine JO.pur rfl rfl rfl (Pur.move rfl) ?_
      refine JO.pur rfl rfl rfl (Pur.mul rfl rfl (wr64 (by omega))) ?_
      refine JO.pur rfl rfl rfl (Pur.assign rfl) ?_
      refine JO.nil ?_
      exact J.weaken (.cons rfl (by dsimp only; rw [hpre, natI_app, List.length_append]; rfl) (.cons rfl (congrArg (Value.int .i64) (by dsimp only; rw [Nat.pow_succ, hw]; omega)) (.cons rfl rfl (.cons rfl rfl (.cons rfl rfl .nil))))) (fun h s => by dsimp only; rw [hpre, natI_app, natI_one]; exact SubC.out h s) (ihk (k + 1, a36, c36) ⟨by dsimp only; omega, hck2⟩ (by dsimp only; omega))
    · try simp only [decide_eq_true_eq, decide_eq_false_iff_not, Bool.not_eq_true', Bool.not_eq_false', Bool.and_eq_true, Bool.or_eq_true, Bool.and_eq_false_iff, Bool.or_eq_false_iff, Option.isNone_some, Option.isSome_some, Option.isNone_none, Option.isSome_none, Int.not_lt, Int.not_le, beq_iff_eq, beq_eq_false_iff_ne, bne_iff_ne, ne_eq, Bool.not_not, Decidable.not_not] at h24
      have hstop : chk n root (rk n root p) (bitL.drop k) = [] := by
        have hbd := bit_drop k hk3
        rw [hbd, ← hw]
        exact chk_no (fun g => by have := g.2; omega)
      refine J.condF rfl rfl ?_
      refine J.exit rfl rfl ?_
      refine J.seq rfl ?_
      refine J.region rfl ?_
      refine JO.pur rfl rfl rfl (Pur.move rfl) ?_
      refine JO.pur rfl rfl rfl (Pur.assign rfl) ?_
      refine JO.nil ?_
      refine J.ret rfl rfl ?_
      have hfin : chP n root p = ((bitL.take (k)).map fun b => ((rk n root p) + b + root) % n) := by unfold chP; rw [show ([1, 2, 4] : List Nat) = bitL from rfl, hck, hstop, List.append_nil]
      refine ⟨_, _, ⟨a8, c8, rfl, rfl⟩, by rw [hfin]; rfl, fun h s => ?_⟩
      rw [hfin]
      exact SubC.out h s
  · try simp only [decide_eq_true_eq, decide_eq_false_iff_not, Bool.not_eq_true', Bool.not_eq_false', Bool.and_eq_true, Bool.or_eq_true, Bool.and_eq_false_iff, Bool.or_eq_false_iff, Option.isNone_some, Option.isSome_some, Option.isNone_none, Option.isSome_none, Int.not_lt, Int.not_le, beq_iff_eq, beq_eq_false_iff_ne, bne_iff_ne, ne_eq, Bool.not_not, Decidable.not_not] at h19
    have hstop : chk n root (rk n root p) (bitL.drop k) = [] := by
      rcases Nat.lt_or_ge k 3 with h | h
      · rw [bit_drop k h, ← hw]; exact chk_no (fun g => by have := g.1; omega)
      · have : k = 3 := by omega
        rw [this]; rfl
    refine JO.no rfl rfl rfl ?_
    refine JO.no rfl rfl rfl ?_
    refine JO.no rfl rfl rfl ?_
    refine JO.no rfl rfl rfl ?_
    refine JO.pur rfl rfl rfl (Pur.pickF rfl rfl) ?_
    refine JO.nil ?_
    refine J.condF rfl rfl ?_
    refine J.exit rfl rfl ?_
    refine J.seq rfl ?_
    refine J.region rfl ?_
    refine JO.pur rfl rfl rfl (Pur.move rfl) ?_
    refine JO.pur rfl rfl rfl (Pur.assign rfl) ?_
    refine JO.nil ?_
    refine J.ret rfl rfl ?_
    have hfin : chP n root p = ((bitL.take (k)).map fun b => ((rk n root p) + b + root) % n) := by unfold chP; rw [show ([1, 2, 4] : List Nat) = bitL from rfl, hck, hstop, List.append_nil]
    refine ⟨_, _, ⟨a8, c8, rfl, rfl⟩, by rw [hfin]; rfl, fun h s => ?_⟩
    rw [hfin]
    exact SubC.out h s

end Go.Proofs.Ytoikjjpleonllaa

/- The text G8. -/
set_option linter.unusedVariables false
set_option linter.unusedSimpArgs false
set_option maxRecDepth 10000
namespace Go.Proofs.Ytoikjjpleonllaa
open Go Go.KK Gr

end Go.Proofs.Ytoikjjpleonllaa

/- The text GPlain2. -/
set_option linter.unusedVariables false
set_option linter.unusedSimpArgs false
/-! Collectives of a tree, plain. -/
namespace Gr
open Go Go.KK
def sCast : ByteArray := ⟨#[99, 97, 115, 116]⟩
def sAll : ByteArray := ⟨#[97, 108, 108]⟩
def sBar : ByteArray := ⟨#[98, 97, 114, 114, 105, 101, 114]⟩
def rt (g : Gs) : Nat := g.root.toNat
def chG (g : Gs) (p : Nat) : List Nat := chP g.ms.length (rt g) p
/-- Some messages downward. -/
def pk (g : Gs) (p : Nat) (v : Int) (cs : List Nat) : Gs := cs.foldl (fun g c => put g ⟨p, c, v, false, 0⟩) g
def castG (g : Gs) (p : Nat) (v : Int) : Gs := pk (setM g p { mem g p with res := v, has := true }) p v (chG g p)
def getV (m : List (Int × Int)) (c : Nat) : Int := (lookI m (c : Int)).getD 0
def accG (g : Gs) (p : Nat) (cs : List Nat) : Int := cs.foldl (fun a c => opV g.op a (getV (mem g p).got c)) (mem g p).v
def combG (g : Gs) (p : Nat) : Gs :=
  if ¬ p = rt g then put g ⟨p, parP g.ms.length (rt g) p, accG g p (chG g p), true, 0⟩
  else if g.kind = sRed then setM g p { mem g p with res := accG g p (chG g p), has := true }
  else castG g p (accG g p (chG g p))
def begT (g : Gs) : Nat → Gs
  | 0 => g
  | k + 1 => if chG (begT g k) k = [] then combG (begT g k) k else begT g k
def beginG (g : Gs) : Gs := if g.kind = sCast then castG g (rt g) (mem g (rt g)).v else if g.kind = sScan then begS g g.ms.length else begT g g.ms.length
def gotU (g : Gs) (m : Ms) : Mm := { mem g m.to with got := setI (mem g m.to).got (m.fr : Int) m.v }
def upG (g : Gs) (k : Nat) : Gs := setM (takeM g k) (msg g k).to (gotU g (msg g k))
def dlvT (g : Gs) (k : Nat) : Gs :=
  if (msg g k).up = true then
    (if (gotU g (msg g k)).got.length = (chG g (msg g k).to).length then combG (upG g k) (msg g k).to else upG g k)
  else castG (takeM g k) (msg g k).to (msg g k).v
def dlvG (g : Gs) (k : Nat) : Gs := if g.kind = sScan then dlvS g k else dlvT g k
/-- Well-formed, with a root among the members. -/
def wfT (g : Gs) : Prop := wf g ∧ 0 ≤ g.root ∧ g.root < (g.ms.length : Int)
theorem ch_lt {n root p c : Nat} (h : c ∈ chP n root p) (hn : 1 ≤ n) : c < n := by
  have : ∀ bs : List Nat, c ∈ chk n root (rk n root p) bs → c < n := by
    intro bs
    induction bs with
    | nil => intro h; cases h
    | cons b bs ih =>
      intro h; unfold chk at h
      split at h
      · rcases List.mem_cons.1 h with rfl | h
        · exact Nat.mod_lt _ hn
        · exact ih h
      · cases h
  exact this _ h
theorem chP_len (n root p : Nat) : (chP n root p).length ≤ 3 := chk_len n root _ [1, 2, 4]
theorem par_lt {n root p : Nat} (hn : 1 ≤ n) : parP n root p < n := Nat.mod_lt _ hn
/-- What stays the same: how many members, which kind, which root, which operation. -/
def sm (g g' : Gs) : Prop := g'.ms.length = g.ms.length ∧ g'.kind = g.kind ∧ g'.root = g.root ∧ g'.op = g.op
theorem sm.rfl {g : Gs} : sm g g := ⟨.refl _, .refl _, .refl _, .refl _⟩
theorem sm.trans {a b c : Gs} (h : sm a b) (h2 : sm b c) : sm a c := ⟨h2.1.trans h.1, h2.2.1.trans h.2.1, h2.2.2.1.trans h.2.2.1, h2.2.2.2.trans h.2.2.2⟩
theorem sm_put (g : Gs) (m : Ms) : sm g (put g m) := ⟨.refl _, .refl _, .refl _, .refl _⟩
theorem sm_set (g : Gs) (p : Nat) (m : Mm) : sm g (setM g p m) := ⟨set_len _ _ _, .refl _, .refl _, .refl _⟩
theorem sm_pk (p : Nat) (v : Int) : ∀ (cs : List Nat) (g : Gs), sm g (pk g p v cs)
  | [], g => sm.rfl
  | c :: cs, g => (sm_put g _).trans (sm_pk p v cs _)
theorem pk_fly (p : Nat) (v : Int) : ∀ (cs : List Nat) (g : Gs), (pk g p v cs).fly = g.fly ++ cs.map (fun c => (⟨p, c, v, false, 0⟩ : Ms))
  | [], g => (List.append_nil _).symm
  | c :: cs, g => by
    show (pk (put g _) p v cs).fly = _
    rw [pk_fly p v cs, List.map_cons, put]; simp
theorem pk_ms (p : Nat) (v : Int) : ∀ (cs : List Nat) (g : Gs), (pk g p v cs).ms = g.ms
  | [], g => .refl _
  | c :: cs, g => pk_ms p v cs _
theorem pk_snoc (g : Gs) (p : Nat) (v : Int) (cs : List Nat) (c : Nat) : pk g p v (cs ++ [c]) = put (pk g p v cs) ⟨p, c, v, false, 0⟩ := by unfold pk; rw [List.foldl_append]; rfl
theorem wf_pk {g : Gs} (h : wf g) {p : Nat} (hp : p < g.ms.length) (v : Int) (cs : List Nat) (hc : ∀ c ∈ cs, c < g.ms.length) : wf (pk g p v cs) := by
  refine ⟨by rw [pk_ms]; exact h.1, by rw [pk_ms]; exact h.2.1, by rw [pk_ms]; exact h.2.2.1, fun m hm => ?_⟩
  rw [pk_ms]
  rw [pk_fly] at hm
  rcases List.mem_append.1 hm with hm | hm
  · exact h.2.2.2 m hm
  · obtain ⟨c, hc1, rfl⟩ := List.mem_map.1 hm
    exact ⟨hc c hc1, hp, Nat.zero_le _⟩
theorem sm_cast (g : Gs) (p : Nat) (v : Int) : sm g (castG g p v) := (sm_set g p _).trans (sm_pk p v _ _)
theorem wf_cast {g : Gs} (h : wf g) {p : Nat} (hp : p < g.ms.length) (v : Int) : wf (castG g p v) := by
  have h9 := h.2.2.1 _ (mem_mem hp)
  have w1 := wf_set (p := p) (m := { mem g p with res := v, has := true }) h h9
  exact wf_pk w1 (by rw [set_len]; exact hp) v _ fun c hc => by rw [set_len]; exact ch_lt hc h.1
theorem cast_fly (g : Gs) (p : Nat) (v : Int) : (castG g p v).fly.length ≤ g.fly.length + 3 := by
  unfold castG
  rw [pk_fly, List.length_append, List.length_map]
  have := chP_len g.ms.length (rt g) p
  show g.fly.length + (chP g.ms.length (rt g) p).length ≤ _
  omega
theorem sm_comb (g : Gs) (p : Nat) : sm g (combG g p) := by
  unfold combG; split
  · exact sm_put _ _
  · split
    · exact sm_set _ _ _
    · exact sm_cast _ _ _
theorem wf_comb {g : Gs} (h : wf g) {p : Nat} (hp : p < g.ms.length) : wf (combG g p) := by
  unfold combG; split
  · exact wf_put h ⟨par_lt h.1, hp, Nat.zero_le _⟩
  · split
    · have h9 := h.2.2.1 _ (mem_mem hp)
      exact wf_set h h9
    · exact wf_cast h hp _
theorem comb_fly (g : Gs) (p : Nat) : (combG g p).fly.length ≤ g.fly.length + 3 := by
  unfold combG; split
  · simp [put]
  · split
    · show g.fly.length ≤ _; omega
    · exact cast_fly _ _ _
theorem begT_keep {g : Gs} (h : wf g) : ∀ k, k ≤ g.ms.length → wf (begT g k) ∧ sm g (begT g k) ∧ (begT g k).fly.length ≤ g.fly.length + 3 * k
  | 0, _ => ⟨h, sm.rfl, Nat.le_refl _⟩
  | k + 1, hk => by
    obtain ⟨a1, a2, a3⟩ := begT_keep h k (by omega)
    unfold begT; split
    · have := comb_fly (begT g k) k
      exact ⟨wf_comb a1 (by have := a2.1; omega), a2.trans (sm_comb _ _), by omega⟩
    · exact ⟨a1, a2, by omega⟩
theorem sm.wfT {g g' : Gs} (h : sm g g') (w : wf g') (ht : wfT g) : wfT g' := ⟨w, by rw [h.2.2.1]; exact ht.2.1, by rw [h.2.2.1, h.1]; exact ht.2.2⟩
end Gr
