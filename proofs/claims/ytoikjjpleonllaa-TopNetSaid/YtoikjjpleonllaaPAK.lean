/-
  A part of the proof of the claim that this folder bears.
-/
import Derived.Test.YtoikjjpleonllaaPAJ
/- The text N2. -/
set_option linter.unusedVariables false
set_option linter.unusedSimpArgs false
set_option maxRecDepth 10000
namespace Go.Proofs.Ytoikjjpleonllaa
open Go Go.KK Gr Nt

theorem cloneN {L : List Asn} {a : Option Addr} {n cap : Nat} {xs : List Nm} [SlIn nmE L a xs] (hn : n = xs.length) (hb : xs.length ≤ 1000000) (hnil : a = none → n = 0 ∧ cap = 0) :
    CallS Try.prog 69 [.slice a n cap].toArray L (fun v M => ∃ a' cap', (v = .slice a' n cap' ∧ (a = none → a' = none)) ∧ M = sl nmE a' cap' xs :: L) := by
  subst hn
  refine CallS.ent ?_
  refine CallS.enter Try.func69 rfl rfl rfl rfl rfl ?_
  refine J.seq rfl ?_
  refine J.region rfl ?_
  refine JO.pur rfl rfl rfl (Pur.assign rfl) ?_
  refine JO.nil ?_
  refine J.seq rfl ?_
  refine J.seq rfl ?_
  refine J.region rfl ?_
  refine JO.pur rfl rfl rfl (Pur.move rfl) ?_
  refine JO.pur rfl rfl rfl (Pur.eqlSlNil rfl) ?_
  refine JO.nil ?_
  refine J.splitB 4 rfl (fun h4 => ?_) (fun h4 => ?_)
  · try simp only [decide_eq_true_eq, decide_eq_false_iff_not, Bool.not_eq_true', Bool.not_eq_false', Bool.and_eq_true, Bool.or_eq_true, Bool.and_eq_false_iff, Bool.or_eq_false_iff, Option.isNone_some, Option.isSome_some, Option.isNone_none, Option.isSome_none, Int.not_lt, Int.not_le, beq_iff_eq, beq_eq_false_iff_ne, bne_iff_ne, ne_eq, Bool.not_not, Decidable.not_not] at h4
    have ha : a = none := by cases a with | none => rfl | some p => simp at h4
    subst ha
    obtain ⟨e1, e2⟩ := hnil rfl
    have e3 : xs = [] := List.eq_nil_of_length_eq_zero (by omega)
    subst e2; subst e3
    refine J.condT rfl rfl ?_
    refine J.seq rfl ?_
    refine J.region rfl ?_
    refine JO.pur rfl rfl rfl (Pur.assign rfl) ?_
    refine JO.nil ?_
    refine J.ret rfl rfl ?_
    exact ⟨_, _, ⟨none, 0, ⟨rfl, fun _ => rfl⟩, rfl⟩, rfl, fun h hs => sl_nil_new hs⟩
  · try simp only [decide_eq_true_eq, decide_eq_false_iff_not, Bool.not_eq_true', Bool.not_eq_false', Bool.and_eq_true, Bool.or_eq_true, Bool.and_eq_false_iff, Bool.or_eq_false_iff, Option.isNone_some, Option.isSome_some, Option.isNone_none, Option.isSome_none, Int.not_lt, Int.not_le, beq_iff_eq, beq_eq_false_iff_ne, bne_iff_ne, ne_eq, Bool.not_not, Decidable.not_not] at h4
    refine J.condF rfl rfl ?_
    refine J.skip rfl ?_
    refine J.seq rfl ?_
    refine J.region rfl ?_
    refine JO.eff rfl rfl rfl (Eff.buildSlice nmE [] rfl rfl rfl rfl rfl rfl rfl) ?_
    rintro _ _ ⟨b5, rfl, -, rfl⟩
    refine JO.pur rfl rfl rfl (Pur.move rfl) ?_
    refine JO.eff rfl rfl rfl (Eff.append rfl rfl rfl rfl (by first | rfl | omega | (simp; done) | (simp; omega)) (by first | rfl | omega | (simp; done) | (simp; omega)) (by decide) (by simp; omega) (by simp; omega) hnil) ?_
    rintro _ _ ⟨a7, c7, rfl, rfl⟩
    refine JO.pur rfl rfl rfl (Pur.assign rfl) ?_
    refine JO.nil ?_
    refine J.ret rfl rfl ?_
    refine ⟨_, _, ⟨a7, c7, ⟨rfl, fun e => ?_⟩, rfl⟩, ?_, fun h hs => ?_⟩
    · rw [e] at h4; simp at h4
    · show Value.slice _ _ _ = Value.slice _ _ _
      simp
    · simpa using hs

theorem delN_core {R : List Asn} {a : Option Addr} {n cap : Nat} {xs : List Nm} {i j : Int} (i' j' : Nat) (hi : i = (i' : Int)) (hj : j = (j' : Int)) (hn : n = xs.length) (h1 : i' < j') (h2 : j' ≤ n) (hb : xs.length ≤ 1000000) :
    CallS Try.prog 70 [.slice a n cap, .int .i64 i, .int .i64 j].toArray (sl nmE a cap xs :: R) (fun v M => ∃ B, (v = .slice a (i' + (n - j')) cap ∧ B = sl nmE a cap (xs.take i' ++ xs.drop j')) ∧ M = B :: R) := by
  subst hi
  subst hj
  subst hn
  refine CallS.enter Try.func70 rfl rfl rfl rfl rfl ?_
  refine J.fact (fun h hs => SlH.le (a := a) hs) fun hcap => ?_
  refine J.seq rfl ?_
  refine J.region rfl ?_
  refine JO.pur rfl rfl rfl (Pur.assign rfl) ?_
  refine JO.nil ?_
  refine J.seq rfl ?_
  refine J.region rfl ?_
  refine JO.pur rfl rfl rfl (Pur.move rfl) ?_
  refine JO.pur rfl rfl rfl (Pur.move rfl) ?_
  refine JO.pur rfl rfl rfl (Pur.move rfl) ?_
  refine JO.pur rfl rfl rfl (Pur.move rfl) ?_
  refine JO.pur rfl rfl rfl (Pur.len rfl) ?_
  refine JO.pur rfl rfl rfl (Pur.slice3 rfl rfl rfl rfl rfl rfl rfl (by omega) (by omega) (by omega)) ?_
  refine JO.nil ?_
  refine J.seq rfl ?_
  refine J.seq rfl ?_
  refine J.region rfl ?_
  refine JO.pur rfl rfl rfl (Pur.move rfl) ?_
  refine JO.pur rfl rfl rfl (Pur.move rfl) ?_
  refine JO.pur rfl rfl rfl (Pur.eqlI rfl rfl) ?_
  refine JO.nil ?_
  refine J.setv (u' := .bool false) 16 rfl (congrArg Value.bool (decide_eq_false (by omega))) ?_
  refine J.condF rfl rfl ?_
  refine J.skip rfl ?_
  refine J.seq rfl ?_
  refine J.region rfl ?_
  refine JO.pur rfl rfl rfl (Pur.move rfl) ?_
  refine JO.pur rfl rfl rfl (Pur.len rfl) ?_
  refine JO.pur rfl rfl rfl (Pur.assign rfl) ?_
  refine JO.nil ?_
  refine J.seq rfl ?_
  refine J.mask1 (n := 8) [] rfl Try.mixed rfl (by kernel_rfl) ?_
  refine JM.take 0 (fun _ h => h.tail) rfl (by kernel_rfl) rfl rfl rfl (m' := 1) rfl (Pur.move rfl) ?_
  refine JM.take 1 (fun _ h => h.tail) rfl (by kernel_rfl) rfl rfl rfl (m' := 3) rfl (Pur.move rfl) ?_
  refine JM.take 2 (fun _ h => h.tail) rfl (by kernel_rfl) rfl rfl rfl (m' := 7) rfl (Pur.slice0 rfl rfl rfl (by omega)) ?_
  refine JM.take 3 (fun _ h => h.tail) rfl (by kernel_rfl) rfl rfl rfl (m' := 15) rfl (Pur.move rfl) ?_
  refine JM.take 4 (fun _ h => h.tail) rfl (by kernel_rfl) rfl rfl rfl (m' := 31) rfl (Pur.move rfl) ?_
  refine JM.take 5 (fun _ h => h.tail) rfl (by kernel_rfl) rfl rfl rfl (m' := 63) rfl (Pur.slice1 rfl rfl rfl (by omega) (by omega)) ?_
  refine JM.one (i := 6) (by kernel_rfl) ?_
  refine JMi.eff rfl rfl rfl rfl (m' := 127) rfl (Eff.deleteApp rfl rfl rfl rfl rfl (by omega) (by omega) (by omega)) ?_
  rintro _ _ ⟨rfl, rfl⟩
  refine ⟨.inr (fun _ h => h.tail), ?_⟩
  refine JM.take 7 (fun _ h => h.tail) rfl (by kernel_rfl) rfl rfl rfl (m' := 255) rfl (Pur.assign rfl) ?_
  refine JM.done rfl ?_
  refine J.seq rfl ?_
  refine J.region rfl ?_
  refine JO.pur rfl rfl rfl (Pur.move rfl) ?_
  refine JO.pur rfl rfl rfl (Pur.move rfl) ?_
  refine JO.pur rfl rfl rfl (Pur.len rfl) ?_
  refine JO.pur rfl rfl rfl (Pur.move rfl) ?_
  refine JO.pur rfl rfl rfl (Pur.slice2 rfl rfl rfl rfl rfl (by omega) (by omega)) ?_
  refine JO.effN rfl rfl (Eff.clearSpare rfl rfl rfl (by simp; omega) (by omega) (by decide)) ?_
  rintro _ _ ⟨rfl, rfl⟩
  refine JO.nil ?_
  refine J.seq rfl ?_
  refine J.region rfl ?_
  refine JO.pur rfl rfl rfl (Pur.move rfl) ?_
  refine JO.pur rfl rfl rfl (Pur.assign rfl) ?_
  refine JO.nil ?_
  refine J.ret rfl rfl ?_
  exact ⟨_, ⟨rfl, rfl⟩, rfl⟩

theorem delN {L : List Asn} {a : Option Addr} {n cap : Nat} {xs : List Nm} {f : Asn → List Asn} [hh : SlH nmE L a cap xs f] {i j : Int} (i' j' : Nat) (hi : i = (i' : Int)) (hj : j = (j' : Int)) (hn : n = xs.length) (h1 : i' < j') (h2 : j' ≤ n) (hb : xs.length ≤ 1000000) :
    CallS Try.prog 70 [.slice a n cap, .int .i64 i, .int .i64 j].toArray L (fun v M => ∃ B, (v = .slice a (i' + (n - j')) cap ∧ B = sl nmE a cap (xs.take i' ++ xs.drop j')) ∧ M = f B) :=
  CallS.at (fun R => delN_core i' j' hi hj hn h1 h2 hb) hh.out

theorem nreq_ok {L : List Asn} {p : Nat} {X : Ns} {m : Nm} (hk : m.kd < 5) (hfr : m.fr < X.cells.length) (hto : m.to < X.cells.length) (hcl : m.cl = 0) (hh : X.hd.length < 1000) (hf : X.fly.length ≤ 100000) (hsb : X.sb ≤ 100000) :
    CallS Try.prog 67 [.pointer (some ⟨p, 0, none⟩), nmV m].toArray (NB p X :: L) (fun v M => v = .tuple #[.int .i64 ((X.hd.length + 1 : Nat) : Int), .int .i64 0] ∧ M = NB p (reqN X m) :: L) := by
  refine CallS.ent ?_
  refine CallS.enter Try.func67 rfl rfl rfl rfl rfl ?_
  refine NB_open fun ca cc fa fc ha hc sa sc hs ss hb1 hb2 => ?_
  refine J.seq rfl ?_
  refine J.region rfl ?_
  refine JO.eff rfl rfl rfl (Eff.box (cs := [_, _, _, _, _, _]) rfl rfl) ?_
  rintro _ _ ⟨b3, rfl, rfl⟩
  refine JO.pur rfl rfl rfl (Pur.assign rfl) ?_
  refine JO.pur rfl rfl rfl (Pur.assign rfl) ?_
  refine JO.nil ?_
  refine J.seq rfl ?_
  refine J.block rfl ?_
  refine J.seq rfl ?_
  refine J.region rfl ?_
  refine JO.pur rfl rfl rfl (Pur.move rfl) ?_
  refine JO.effR rfl rfl rfl (Eff.call rfl (nnone_ok)) ?_
  refine JO.pur rfl rfl rfl (Pur.assign rfl) ?_
  refine JO.nil ?_
  refine J.setv (u' := .bool false) 6 rfl (congrArg Value.bool (decide_eq_false (by omega))) ?_
  refine J.condF rfl rfl ?_
  refine J.seq rfl ?_
  refine J.region rfl ?_
  refine JO.pur rfl rfl rfl (Pur.move rfl) ?_
  refine JO.pur rfl rfl rfl (Pur.fieldAddr rfl) ?_
  refine JO.pur rfl rfl rfl (Pur.load rfl (CellIn.blk rfl)) ?_
  refine JO.setv (u' := .int .i64 (m.fr : Int)) 12 rfl rfl ?_
  refine JO.effR rfl rfl rfl (Eff.call rfl (isPlace_ok (q := (m.fr : Int)))) ?_
  refine JO.setv (u' := .bool true) 13 rfl (congrArg Value.bool (decide_eq_true (by omega))) ?_
  refine JO.pur rfl rfl rfl (Pur.not rfl) ?_
  refine JO.pur rfl rfl rfl (Pur.move rfl) ?_
  refine JO.pur rfl rfl rfl (Pur.move rfl) ?_
  refine JO.pur rfl rfl rfl (Pur.fieldAddr rfl) ?_
  refine JO.pur rfl rfl rfl (Pur.load rfl (CellIn.blk rfl)) ?_
  refine JO.setv (u' := .int .i64 (m.to : Int)) 18 rfl rfl ?_
  refine JO.effR rfl rfl rfl (Eff.call rfl (isPlace_ok (q := (m.to : Int)))) ?_
  refine JO.setv (u' := .bool true) 19 rfl (congrArg Value.bool (decide_eq_true (by omega))) ?_
  refine JO.pur rfl rfl rfl (Pur.not rfl) ?_
  refine JO.pur rfl rfl rfl (Pur.pickF rfl rfl) ?_
  refine JO.pur rfl rfl rfl (Pur.move rfl) ?_
  refine JO.pur rfl rfl rfl (Pur.move rfl) ?_
  refine JO.pur rfl rfl rfl (Pur.fieldAddr rfl) ?_
  refine JO.pur rfl rfl rfl (Pur.load rfl (CellIn.blk rfl)) ?_
  refine JO.setv (u' := .int .i64 (m.cl : Int)) 25 rfl rfl ?_
  refine JO.effR rfl rfl rfl (Eff.call rfl (isCell_ok (q := (m.cl : Int)) (hs := hs) (by omega) (by omega))) ?_
  refine JO.setv (u' := .bool true) 26 rfl (congrArg Value.bool (decide_eq_true (by omega))) ?_
  refine JO.pur rfl rfl rfl (Pur.not rfl) ?_
  refine JO.pur rfl rfl rfl (Pur.pickF rfl rfl) ?_
  refine JO.pur rfl rfl rfl (Pur.assign rfl) ?_
  refine JO.nil ?_
  refine J.condF rfl rfl ?_
  refine J.seq rfl ?_
  refine J.region rfl ?_
  refine JO.pur rfl rfl rfl (Pur.move rfl) ?_
  refine JO.pur rfl rfl rfl (Pur.nilCheck rfl) ?_
  refine JO.pur rfl rfl rfl (Pur.fieldAddr rfl) ?_
  refine JO.pur rfl rfl rfl (Pur.load rfl (CellIn.blk rfl)) ?_
  refine JO.pur rfl rfl rfl (Pur.len rfl) ?_
  refine JO.pur rfl rfl rfl (Pur.eqlI rfl rfl) ?_
  refine JO.pur rfl rfl rfl (Pur.assign rfl) ?_
  refine JO.nil ?_
  refine J.setv (u' := .bool false) 29 rfl (congrArg Value.bool (decide_eq_false (by omega))) ?_
  refine J.condF rfl rfl ?_
  refine J.skip rfl ?_
  refine J.inBlock ?_
  refine J.seq rfl ?_
  refine J.mask0 (n := 13) [9, 12] rfl Try.mixed rfl (by kernel_rfl) ?_
  refine JM.takeF 0 (.inr (fun _ h => h)) rfl (by kernel_rfl) rfl rfl rfl (m' := 1) rfl (Pur.move rfl) ?_
  refine JM.take 1 (fun _ h => h) rfl (by kernel_rfl) rfl rfl rfl (m' := 3) rfl (Pur.move rfl) ?_
  refine JM.take 2 (fun _ h => h) rfl (by kernel_rfl) rfl rfl rfl (m' := 7) rfl (Pur.nilCheck rfl) ?_
  refine JM.take 3 (fun _ h => h) rfl (by kernel_rfl) rfl rfl rfl (m' := 15) rfl (Pur.fieldAddr rfl) ?_
  refine JM.take 4 (fun _ h => h) rfl (by kernel_rfl) rfl rfl rfl (m' := 31) rfl (Pur.load rfl (CellIn.blk rfl)) ?_
  refine JM.take 5 (fun _ h => h) rfl (by kernel_rfl) rfl rfl rfl (m' := 63) rfl (Pur.fieldAddr rfl) ?_
  refine JM.take 6 (fun _ h => h) rfl (by kernel_rfl) rfl rfl rfl (m' := 127) rfl (Pur.load rfl (CellIn.blk rfl)) ?_
  refine JM.setv (u' := .int .i64 (m.fr : Int)) 42 rfl rfl ?_
  refine JM.take 7 (fun _ h => h) rfl (by kernel_rfl) rfl rfl rfl (m' := 255) rfl (Pur.build (cs := [_, _, _]) rfl rfl) ?_
  refine JM.one (i := 8) (by kernel_rfl) ?_
  refine JMi.eff rfl rfl rfl rfl (m' := 511) rfl (Eff.buildSlice hnE [(⟨m.fr, 0, false⟩ : Hn)] rfl rfl rfl rfl rfl rfl rfl) ?_
  rintro _ _ ⟨b44, rfl, -, rfl⟩
  refine ⟨.inr (fun _ h => h.tail), ?_⟩
  refine JM.one (i := 9) (by kernel_rfl) ?_
  refine JMi.eff rfl rfl rfl rfl (m' := 1023) rfl (Eff.append rfl rfl rfl rfl (by first | rfl | omega | (simp; done) | (simp; omega)) (by first | rfl | omega | (simp; done) | (simp; omega)) (by decide) (by simp; omega) (by simp; omega) (fun h => by cases h)) ?_
  rintro _ _ ⟨a45, c45, rfl, rfl⟩
  refine ⟨.inl (by simp), ?_⟩
  refine JM.takeF 10 (.inl (by kernel_rfl)) rfl (by kernel_rfl) rfl rfl rfl (m' := 2047) rfl (Pur.nilCheck rfl) ?_
  refine JM.takeF 11 (.inl (by kernel_rfl)) rfl (by kernel_rfl) rfl rfl rfl (m' := 4095) rfl (Pur.fieldAddr rfl) ?_
  refine JM.one (i := 12) (by kernel_rfl) ?_
  refine JMi.effN rfl rfl rfl (m' := 8191) rfl (Eff.storeB rfl rfl rfl (.tail (.tail .head))) ?_
  rintro _ _ ⟨rfl, rfl⟩
  refine ⟨.inl (by simp), ?_⟩
  refine JM.done rfl ?_
  refine J.seq rfl ?_
  refine J.imp (M := blk b3 (nmC m) :: NB p (openN X m.fr) :: L) (fun h s => by have e : X.hd.length + 1 = (X.hd ++ [(⟨m.fr, 0, false⟩ : Hn)]).length := (by simp); simp only [List.length_singleton] at s; rw [e] at s; have s2 := NB_mk (X := openN X m.fr) (ca := ca) (cc := cc) (fa := fa) (fc := fc) (ha := a45) (hc := c45) (sa := sa) (sc := sc) (hs := hs) (ss := ss) (L := blk b3 (nmC m) :: L) hb1 hb2 (by show Sat h (blk p (nC ca X.cells.length cc fa X.fly.length fc a45 (X.hd ++ [(⟨m.fr, 0, false⟩ : Hn)]).length c45 sa ss.length sc) :: sl hcE ca cc hs :: star (List.zipWith cA hs X.cells) :: sl nmE fa fc X.fly :: sl hnE a45 c45 (X.hd ++ [(⟨m.fr, 0, false⟩ : Hn)]) :: sl ctE sa sc ss :: blk b3 (nmC m) :: L); exact SubC.out h s); exact SubC.out h s2) ?_
  refine J.imp (M := NB p (openN X m.fr) :: blk b3 (nmC m) :: L) (fun h s => SubC.out h s) ?_
  clear hb1 hb2
  refine NB_open fun ca cc fa fc ha hc sa sc hs ss hb1 hb2 => ?_
  have hol : (openN X m.fr).hd.length = X.hd.length + 1 := by unfold openN; simp
  refine J.region rfl ?_
  refine JO.pur rfl rfl rfl (Pur.move rfl) ?_
  refine JO.pur rfl rfl rfl (Pur.nilCheck rfl) ?_
  refine JO.pur rfl rfl rfl (Pur.fieldAddr rfl) ?_
  refine JO.pur rfl rfl rfl (Pur.load rfl (CellIn.blk rfl)) ?_
  refine JO.pur rfl rfl rfl (Pur.len rfl) ?_
  refine JO.setv (u' := .int .i64 ((X.hd.length + 1 : Nat) : Int)) 52 rfl (by rw [hol]) ?_
  refine JO.pur rfl rfl rfl (Pur.fieldAddr rfl) ?_
  refine JO.effN rfl rfl (Eff.storeB rfl rfl rfl (.tail (.tail (.tail (.tail (.tail .head)))))) ?_
  rintro _ _ ⟨rfl, rfl⟩
  refine JO.imp (M := NB p (openN X m.fr) :: blk b3 (nmC (⟨m.fr, m.to, m.kd, m.cl, m.v, X.hd.length + 1⟩ : Nm)) :: L) (fun h s => NB_mk (X := openN X m.fr) (ca := ca) (cc := cc) (fa := fa) (fc := fc) (ha := ha) (hc := hc) (sa := sa) (sc := sc) (hs := hs) (ss := ss) hb1 hb2 (SubC.out (M := blk p (nC ca (openN X m.fr).cells.length cc fa (openN X m.fr).fly.length fc ha (openN X m.fr).hd.length hc sa ss.length sc) :: sl hcE ca cc hs :: star (List.zipWith cA hs (openN X m.fr).cells) :: sl nmE fa fc (openN X m.fr).fly :: sl hnE ha hc (openN X m.fr).hd :: sl ctE sa sc ss :: blk b3 (nmC (⟨m.fr, m.to, m.kd, m.cl, m.v, X.hd.length + 1⟩ : Nm)) :: L) h s)) ?_
  refine JO.nil ?_
  refine J.seq rfl ?_
  refine J.seq rfl ?_
  refine J.region rfl ?_
  refine JO.pur rfl rfl rfl (Pur.fieldAddr rfl) ?_
  refine JO.pur rfl rfl rfl (Pur.load rfl (CellIn.blk rfl)) ?_
  refine JO.setv (u' := .int .i64 (m.fr : Int)) 55 rfl rfl ?_
  refine JO.pur rfl rfl rfl (Pur.fieldAddr rfl) ?_
  refine JO.pur rfl rfl rfl (Pur.load rfl (CellIn.blk rfl)) ?_
  refine JO.setv (u' := .int .i64 (m.to : Int)) 57 rfl rfl ?_
  refine JO.pur rfl rfl rfl (Pur.eqlI rfl rfl) ?_
  refine JO.nil ?_
  refine J.splitB 58 rfl (fun h58 => ?_) (fun h58 => ?_)
  · try simp only [decide_eq_true_eq, decide_eq_false_iff_not, Bool.not_eq_true', Bool.not_eq_false', Bool.and_eq_true, Bool.or_eq_true, Bool.and_eq_false_iff, Bool.or_eq_false_iff, Option.isNone_some, Option.isSome_some, Option.isNone_none, Option.isSome_none, Int.not_lt, Int.not_le, beq_iff_eq, beq_eq_false_iff_ne, bne_iff_ne, ne_eq, Bool.not_not, Decidable.not_not] at h58
    have hft : m.fr = m.to := by omega
    refine J.condT rfl rfl ?_
    refine J.mask0 (n := 7) [5, 6] rfl Try.mixed rfl (by kernel_rfl) ?_
    refine JM.takeF 0 (.inr (fun _ h => h)) rfl (by kernel_rfl) rfl rfl rfl (m' := 1) rfl (Pur.move rfl) ?_
    refine JM.takeF 1 (.inr (fun _ h => h)) rfl (by kernel_rfl) rfl rfl rfl (m' := 3) rfl (Pur.fieldAddr rfl) ?_
    refine JM.take 3 (fun _ h => h) rfl (by kernel_rfl) rfl rfl rfl (m' := 11) rfl (Pur.move rfl) ?_
    refine JM.take 4 (fun _ h => h) rfl (by kernel_rfl) rfl rfl rfl (m' := 27) rfl (Pur.loadA rfl rfl rfl CellsIn.blk) ?_
    refine JM.setv (u' := nmV (⟨m.fr, m.to, m.kd, m.cl, m.v, X.hd.length + 1⟩ : Nm)) 63 rfl rfl ?_
    refine JM.many (rs := [2, 5]) (by kernel_rfl) rfl (fun i hi => ?_)
    simp only [List.mem_cons, List.not_mem_nil, or_false] at hi
    rcases hi with rfl | rfl
    · skip
      refine JMi.eff rfl rfl rfl rfl (m' := 31) rfl (Pur.eff (Pur.load rfl (CellIn.blk rfl))) ?_
      rintro _ _ ⟨rfl, rfl⟩
      refine ⟨.inr (fun _ h => h), ?_⟩
      refine JM.setv (u' := .int .i64 ((X.hd.length + 1 : Nat) : Int)) 61 rfl rfl ?_
      refine JM.one (i := 5) (by kernel_rfl) ?_
      refine JMi.eff rfl rfl rfl rfl (m' := 63) rfl (Eff.call rfl (ndo_ok (X := openN X m.fr) (m := (⟨m.fr, m.to, m.kd, m.cl, m.v, X.hd.length + 1⟩ : Nm)) hto hcl)) ?_
      rintro _ _ ⟨rfl, rfl⟩
      refine ⟨.inl (by simp), ?_⟩
      refine JM.one (i := 6) (by kernel_rfl) ?_
      refine JMi.eff rfl rfl rfl rfl (m' := 127) rfl (Eff.call rfl (ndone_ok (X := doN (openN X m.fr) (⟨m.fr, m.to, m.kd, m.cl, m.v, X.hd.length + 1⟩ : Nm)) (k := X.hd.length + 1) (z := doA (cellN X m.to) m) (by omega) (by show _ ≤ (openN X m.fr).hd.length; omega) (by show (openN X m.fr).hd.length ≤ _; omega))) ?_
      rintro _ _ ⟨rfl, rfl⟩
      refine ⟨.inl (by simp), ?_⟩
      refine JM.done rfl ?_
      refine J.seq rfl ?_
      refine J.region rfl ?_
      refine JO.pur rfl rfl rfl (Pur.fieldAddr rfl) ?_
      refine JO.pur rfl rfl rfl (Pur.load rfl (CellIn.blk rfl)) ?_
      refine JO.setv (u' := .int .i64 ((X.hd.length + 1 : Nat) : Int)) 70 rfl rfl ?_
      refine JO.pur rfl rfl rfl (Pur.assign rfl) ?_
      refine JO.pur rfl rfl rfl (Pur.assign rfl) ?_
      refine JO.nil ?_
      refine J.ret rfl rfl ?_
      refine ⟨_, _, ⟨rfl, rfl⟩, rfl, fun h s => ?_⟩
      unfold reqN
      first
      | (rw [if_pos hft]; exact SubC.out h s)
      | (rw [if_neg hft]; exact SubC.out h s)
    · skip
      refine JMi.eff rfl rfl rfl rfl (m' := 59) rfl (Eff.call rfl (ndo_ok (X := openN X m.fr) (m := (⟨m.fr, m.to, m.kd, m.cl, m.v, X.hd.length + 1⟩ : Nm)) hto hcl)) ?_
      rintro _ _ ⟨rfl, rfl⟩
      refine ⟨.inl (by simp), ?_⟩
      refine JM.one (i := 2) (by kernel_rfl) ?_
      refine JMi.eff rfl rfl rfl rfl (m' := 63) rfl (Pur.eff (Pur.load rfl (CellIn.blk rfl))) ?_
      rintro _ _ ⟨rfl, rfl⟩
      refine ⟨.inl (.inr (by kernel_rfl)), ?_⟩
      refine JM.setv (u' := .int .i64 ((X.hd.length + 1 : Nat) : Int)) 61 rfl rfl ?_
      refine JM.one (i := 6) (by kernel_rfl) ?_
      refine JMi.eff rfl rfl rfl rfl (m' := 127) rfl (Eff.call rfl (ndone_ok (X := doN (openN X m.fr) (⟨m.fr, m.to, m.kd, m.cl, m.v, X.hd.length + 1⟩ : Nm)) (k := X.hd.length + 1) (z := doA (cellN X m.to) m) (by omega) (by show _ ≤ (openN X m.fr).hd.length; omega) (by show (openN X m.fr).hd.length ≤ _; omega))) ?_
      rintro _ _ ⟨rfl, rfl⟩
      refine ⟨.inl (by simp), ?_⟩
      refine JM.done rfl ?_
      refine J.seq rfl ?_
      refine J.region rfl ?_
      refine JO.pur rfl rfl rfl (Pur.fieldAddr rfl) ?_
      refine JO.pur rfl rfl rfl (Pur.load rfl (CellIn.blk rfl)) ?_
      refine JO.setv (u' := .int .i64 ((X.hd.length + 1 : Nat) : Int)) 70 rfl rfl ?_
      refine JO.pur rfl rfl rfl (Pur.assign rfl) ?_
      refine JO.pur rfl rfl rfl (Pur.assign rfl) ?_
      refine JO.nil ?_
      refine J.ret rfl rfl ?_
      refine ⟨_, _, ⟨rfl, rfl⟩, rfl, fun h s => ?_⟩
      unfold reqN
      first
      | (rw [if_pos hft]; exact SubC.out h s)
      | (rw [if_neg hft]; exact SubC.out h s)
  · try simp only [decide_eq_true_eq, decide_eq_false_iff_not, Bool.not_eq_true', Bool.not_eq_false', Bool.and_eq_true, Bool.or_eq_true, Bool.and_eq_false_iff, Bool.or_eq_false_iff, Option.isNone_some, Option.isSome_some, Option.isNone_none, Option.isSome_none, Int.not_lt, Int.not_le, beq_iff_eq, beq_eq_false_iff_ne, bne_iff_ne, ne_eq, Bool.not_not, Decidable.not_not] at h58
    have hft : ¬ m.fr = m.to := by omega
    refine J.condF rfl rfl ?_
    refine J.region rfl ?_
    refine JO.pur rfl rfl rfl (Pur.move rfl) ?_
    refine JO.pur rfl rfl rfl (Pur.loadA rfl rfl rfl CellsIn.blk) ?_
    refine JO.setv (u' := nmV (⟨m.fr, m.to, m.kd, m.cl, m.v, X.hd.length + 1⟩ : Nm)) 67 rfl rfl ?_
    refine JO.eff rfl rfl rfl (Eff.call rfl (nsend_ok (X := openN X m.fr) (m := (⟨m.fr, m.to, m.kd, m.cl, m.v, X.hd.length + 1⟩ : Nm)) hk hf hsb)) ?_
    rintro _ _ ⟨rfl, rfl⟩
    refine JO.nil ?_
    refine J.seq rfl ?_
    refine J.region rfl ?_
    refine JO.pur rfl rfl rfl (Pur.fieldAddr rfl) ?_
    refine JO.pur rfl rfl rfl (Pur.load rfl (CellIn.blk rfl)) ?_
    refine JO.setv (u' := .int .i64 ((X.hd.length + 1 : Nat) : Int)) 70 rfl rfl ?_
    refine JO.pur rfl rfl rfl (Pur.assign rfl) ?_
    refine JO.pur rfl rfl rfl (Pur.assign rfl) ?_
    refine JO.nil ?_
    refine J.ret rfl rfl ?_
    refine ⟨_, _, ⟨rfl, rfl⟩, rfl, fun h s => ?_⟩
    unfold reqN
    first
    | (rw [if_pos hft]; exact SubC.out h s)
    | (rw [if_neg hft]; exact SubC.out h s)

theorem nadd_ok {L : List Asn} {p : Nat} {X : Ns} {fr to : Nat} {z : Int} (hfr : fr < X.cells.length) (hto : to < X.cells.length) (hh : X.hd.length < 1000) (hf : X.fly.length ≤ 100000) (hsb : X.sb ≤ 100000) :
    CallS Try.prog 35 [.pointer (some ⟨p, 0, none⟩), .int .i64 (fr : Int), .int .i64 (to : Int), .int .i64 0, .int .i64 z].toArray (NB p X :: L) (fun v M => v = .tuple #[.int .i64 ((X.hd.length + 1 : Nat) : Int), .int .i64 0] ∧ M = NB p (reqN X ⟨fr, to, 3, 0, z, 0⟩) :: L) := by
  refine CallS.ent ?_
  refine CallS.enter Try.func35 rfl rfl rfl rfl rfl ?_
  refine J.seq rfl ?_
  refine J.region rfl ?_
  refine JO.pur rfl rfl rfl (Pur.assign rfl) ?_
  refine JO.pur rfl rfl rfl (Pur.assign rfl) ?_
  refine JO.nil ?_
  refine J.seq rfl ?_
  refine J.region rfl ?_
  refine JO.pur rfl rfl rfl (Pur.move rfl) ?_
  refine JO.pur rfl rfl rfl (Pur.move rfl) ?_
  refine JO.pur rfl rfl rfl (Pur.move rfl) ?_
  refine JO.pur rfl rfl rfl (Pur.move rfl) ?_
  refine JO.pur rfl rfl rfl (Pur.move rfl) ?_
  refine JO.pur rfl rfl rfl (Pur.build (cs := [_, _, _, _, _, _]) rfl rfl) ?_
  refine JO.eff rfl rfl rfl (Eff.call rfl (nreq_ok (m := ⟨fr, to, 3, 0, z, 0⟩) (by dsimp only; decide) hfr hto rfl hh hf hsb)) ?_
  rintro _ _ ⟨rfl, rfl⟩
  refine JO.pur rfl rfl rfl (Pur.extract rfl rfl) ?_
  refine JO.pur rfl rfl rfl (Pur.extract rfl rfl) ?_
  refine JO.pur rfl rfl rfl (Pur.assign rfl) ?_
  refine JO.pur rfl rfl rfl (Pur.assign rfl) ?_
  refine JO.nil ?_
  refine J.ret rfl rfl ?_
  exact ⟨_, _, ⟨rfl, rfl⟩, rfl, fun h s => SubC.out h s⟩

theorem nput_ok {L : List Asn} {p : Nat} {X : Ns} {fr to : Nat} {z : Int} (hfr : fr < X.cells.length) (hto : to < X.cells.length) (hh : X.hd.length < 1000) (hf : X.fly.length ≤ 100000) (hsb : X.sb ≤ 100000) :
    CallS Try.prog 64 [.pointer (some ⟨p, 0, none⟩), .int .i64 (fr : Int), .int .i64 (to : Int), .int .i64 0, .int .i64 z].toArray (NB p X :: L) (fun v M => v = .tuple #[.int .i64 ((X.hd.length + 1 : Nat) : Int), .int .i64 0] ∧ M = NB p (reqN X ⟨fr, to, 1, 0, z, 0⟩) :: L) := by
  refine CallS.ent ?_
  refine CallS.enter Try.func64 rfl rfl rfl rfl rfl ?_
  refine J.seq rfl ?_
  refine J.region rfl ?_
  refine JO.pur rfl rfl rfl (Pur.assign rfl) ?_
  refine JO.pur rfl rfl rfl (Pur.assign rfl) ?_
  refine JO.nil ?_
  refine J.seq rfl ?_
  refine J.region rfl ?_
  refine JO.pur rfl rfl rfl (Pur.move rfl) ?_
  refine JO.pur rfl rfl rfl (Pur.move rfl) ?_
  refine JO.pur rfl rfl rfl (Pur.move rfl) ?_
  refine JO.pur rfl rfl rfl (Pur.move rfl) ?_
  refine JO.pur rfl rfl rfl (Pur.move rfl) ?_
  refine JO.pur rfl rfl rfl (Pur.build (cs := [_, _, _, _, _, _]) rfl rfl) ?_
  refine JO.eff rfl rfl rfl (Eff.call rfl (nreq_ok (m := ⟨fr, to, 1, 0, z, 0⟩) (by dsimp only; decide) hfr hto rfl hh hf hsb)) ?_
  rintro _ _ ⟨rfl, rfl⟩
  refine JO.pur rfl rfl rfl (Pur.extract rfl rfl) ?_
  refine JO.pur rfl rfl rfl (Pur.extract rfl rfl) ?_
  refine JO.pur rfl rfl rfl (Pur.assign rfl) ?_
  refine JO.pur rfl rfl rfl (Pur.assign rfl) ?_
  refine JO.nil ?_
  refine J.ret rfl rfl ?_
  exact ⟨_, _, ⟨rfl, rfl⟩, rfl, fun h s => SubC.out h s⟩

theorem ncell_ok {L : List Asn} {p : Nat} {X : Ns} {q : Nat} (hq : q < X.cells.length) :
    CallS Try.prog 38 [.pointer (some ⟨p, 0, none⟩), .int .i64 (q : Int), .int .i64 0].toArray (NB p X :: L) (fun v M => v = .tuple #[.int .i64 (cellN X q), .int .i64 0] ∧ M = NB p X :: L) := by
  refine CallS.ent ?_
  refine CallS.enter Try.func38 rfl rfl rfl rfl rfl ?_
  refine NB_open fun ca cc fa fc ha hc sa sc hs ss hb1 hb2 => ?_
  obtain ⟨hd, hbi⟩ : ∃ hd, hs[q]? = some hd := ⟨_, List.getElem?_eq_getElem (by omega)⟩
  refine J.seq rfl ?_
  refine J.region rfl ?_
  refine JO.pur rfl rfl rfl (Pur.assign rfl) ?_
  refine JO.pur rfl rfl rfl (Pur.assign rfl) ?_
  refine JO.nil ?_
  refine J.seq rfl ?_
  refine J.block rfl ?_
  refine J.seq rfl ?_
  refine J.region rfl ?_
  refine JO.pur rfl rfl rfl (Pur.move rfl) ?_
  refine JO.effR rfl rfl rfl (Eff.call rfl (nnone_ok)) ?_
  refine JO.pur rfl rfl rfl (Pur.assign rfl) ?_
  refine JO.nil ?_
  refine J.setv (u' := .bool false) 8 rfl (congrArg Value.bool (decide_eq_false (by omega))) ?_
  refine J.condF rfl rfl ?_
  refine J.seq rfl ?_
  refine J.region rfl ?_
  refine JO.pur rfl rfl rfl (Pur.move rfl) ?_
  refine JO.pur rfl rfl rfl (Pur.move rfl) ?_
  refine JO.effR rfl rfl rfl (Eff.call rfl (isPlace_ok (q := (q : Int)))) ?_
  refine JO.setv (u' := .bool true) 14 rfl (congrArg Value.bool (decide_eq_true (by omega))) ?_
  refine JO.pur rfl rfl rfl (Pur.not rfl) ?_
  refine JO.pur rfl rfl rfl (Pur.move rfl) ?_
  refine JO.pur rfl rfl rfl (Pur.move rfl) ?_
  refine JO.pur rfl rfl rfl (Pur.move rfl) ?_
  refine JO.effR rfl rfl rfl (Eff.call rfl (isCell_ok (q := 0) (hs := hs) (by omega) (by omega))) ?_
  refine JO.setv (u' := .bool true) 19 rfl (congrArg Value.bool (decide_eq_true (by omega))) ?_
  refine JO.pur rfl rfl rfl (Pur.not rfl) ?_
  refine JO.pur rfl rfl rfl (Pur.pickF rfl rfl) ?_
  refine JO.pur rfl rfl rfl (Pur.assign rfl) ?_
  refine JO.nil ?_
  refine J.condF rfl rfl ?_
  refine J.skip rfl ?_
  refine J.inBlock ?_
  refine J.seq rfl ?_
  refine J.imp (fun h s => zw_open (A := cA) hbi (cell_get hq) (SubC.out (M := star (List.zipWith cA hs X.cells) :: blk p (nC ca X.cells.length cc fa X.fly.length fc ha X.hd.length hc sa ss.length sc) :: sl hcE ca cc hs :: sl nmE fa fc X.fly :: sl hnE ha hc X.hd :: sl ctE sa sc ss :: L) h s)) ?_
  refine J.region rfl ?_
  refine JO.pur rfl rfl rfl (Pur.move rfl) ?_
  refine JO.pur rfl rfl rfl (Pur.nilCheck rfl) ?_
  refine JO.pur rfl rfl rfl (Pur.fieldAddr rfl) ?_
  refine JO.pur rfl rfl rfl (Pur.load rfl (CellIn.blk rfl)) ?_
  refine JO.pur rfl rfl rfl (Pur.move rfl) ?_
  refine JO.pur rfl rfl rfl (Pur.idx rfl rfl rfl (by first | rfl | (simp; done) | omega) rfl (by omega)) ?_
  refine JO.pur rfl rfl rfl (Pur.load rfl (CellIn.el0 rfl hbi rfl)) ?_
  refine JO.setv (u' := .slice hd.1 1 hd.2) 28 rfl rfl ?_
  refine JO.pur rfl rfl rfl (Pur.move rfl) ?_
  refine JO.pur rfl rfl rfl (Pur.idx rfl rfl rfl (by first | rfl | (simp; done) | omega) (show (0 : Int) = ((0 : Nat) : Int) from rfl) (by simp)) ?_
  refine JO.pur rfl rfl rfl (Pur.load rfl (CellIn.el0 rfl (show [cellN X q][0]? = some (cellN X q) from rfl) rfl)) ?_
  refine JO.setv (u' := .int .i64 (cellN X q)) 31 rfl rfl ?_
  refine JO.pur rfl rfl rfl (Pur.assign rfl) ?_
  refine JO.pur rfl rfl rfl (Pur.assign rfl) ?_
  refine JO.nil ?_
  refine J.ret rfl rfl ?_
  refine ⟨_, _, ⟨rfl, rfl⟩, rfl, fun h s => ?_⟩
  have s2 := zw_put (A := cA) (r' := hd) (c' := cellN X q) hbi (cell_get hq) (SubC.out (M := cA hd (cellN X q) :: zwBut cA q hs X.cells :: blk p (nC ca X.cells.length cc fa X.fly.length fc ha X.hd.length hc sa ss.length sc) :: sl hcE ca cc hs :: sl nmE fa fc X.fly :: sl hnE ha hc X.hd :: sl ctE sa sc ss :: L) h s)
  rw [set_same hbi, set_same (cell_get hq)] at s2
  exact NB_mk (X := X) (ca := ca) (cc := cc) (fa := fa) (fc := fc) (ha := ha) (hc := hc) (sa := sa) (sc := sc) (hs := hs) (ss := ss) hb1 hb2 (SubC.out h s2)

theorem ndeliver_ok {L : List Asn} {p : Nat} {X : Ns} {k : Nat} (hn : 1 ≤ X.cells.length) (hk : k < X.fly.length) (h4 : (msgN X k).kd = 4 → 1 ≤ (msgN X k).h ∧ (msgN X k).h ≤ X.hd.length) (hto : (msgN X k).to < X.cells.length) (hcl : (msgN X k).cl = 0) (hh : X.hd.length ≤ 100000) (hf : X.fly.length ≤ 100000) (hsb : X.sb ≤ 100000) :
    CallS Try.prog 37 [.pointer (some ⟨p, 0, none⟩), .int .i64 (k : Int)].toArray (NB p X :: L) (fun v M => v = .int .i64 0 ∧ M = NB p (dlvNt X k) :: L) := by
  have hft : (takeN X k).fly.length ≤ 100000 := by show (X.fly.take k ++ X.fly.drop (k + 1)).length ≤ _; rw [List.length_append, List.length_take, List.length_drop]; omega
  refine CallS.ent ?_
  refine CallS.enter Try.func37 rfl rfl rfl rfl rfl ?_
  refine NB_open fun ca cc fa fc ha hc sa sc hs ss hb1 hb2 => ?_
  refine J.seq rfl ?_
  refine J.region rfl ?_
  refine JO.pur rfl rfl rfl (Pur.assign rfl) ?_
  refine JO.nil ?_
  refine J.seq rfl ?_
  refine J.block rfl ?_
  refine J.seq rfl ?_
  refine J.region rfl ?_
  refine JO.pur rfl rfl rfl (Pur.move rfl) ?_
  refine JO.effR rfl rfl rfl (Eff.call rfl (nnone_ok)) ?_
  refine JO.pur rfl rfl rfl (Pur.assign rfl) ?_
  refine JO.nil ?_
  refine J.setv (u' := .bool false) 7 rfl (congrArg Value.bool (decide_eq_false (by omega))) ?_
  refine J.condF rfl rfl ?_
  refine J.seq rfl ?_
  refine J.region rfl ?_
  refine JO.pur rfl rfl rfl (Pur.move rfl) ?_
  refine JO.pur rfl rfl rfl (Pur.lss rfl rfl) ?_
  refine JO.pur rfl rfl rfl (Pur.move rfl) ?_
  refine JO.setv (u' := .bool false) 13 rfl (congrArg Value.bool (decide_eq_false (by omega))) ?_
  refine JO.pur rfl rfl rfl (Pur.move rfl) ?_
  refine JO.pur rfl rfl rfl (Pur.move rfl) ?_
  refine JO.pur rfl rfl rfl (Pur.nilCheck rfl) ?_
  refine JO.pur rfl rfl rfl (Pur.fieldAddr rfl) ?_
  refine JO.pur rfl rfl rfl (Pur.load rfl (CellIn.blk rfl)) ?_
  refine JO.pur rfl rfl rfl (Pur.len rfl) ?_
  refine JO.pur rfl rfl rfl (Pur.geq rfl rfl) ?_
  refine JO.pur rfl rfl rfl (Pur.pickF rfl rfl) ?_
  refine JO.pur rfl rfl rfl (Pur.assign rfl) ?_
  refine JO.nil ?_
  refine J.setv (u' := .bool false) 10 rfl (congrArg Value.bool (decide_eq_false (by omega))) ?_
  refine J.condF rfl rfl ?_
  refine J.skip rfl ?_
  refine J.inBlock ?_
  refine J.seq rfl ?_
  refine J.region rfl ?_
  refine JO.pur rfl rfl rfl (Pur.move rfl) ?_
  refine JO.pur rfl rfl rfl (Pur.nilCheck rfl) ?_
  refine JO.pur rfl rfl rfl (Pur.fieldAddr rfl) ?_
  refine JO.pur rfl rfl rfl (Pur.load rfl (CellIn.blk rfl)) ?_
  refine JO.pur rfl rfl rfl (Pur.move rfl) ?_
  refine JO.pur rfl rfl rfl (Pur.idx rfl rfl rfl (by first | rfl | (simp; done) | omega) rfl (by omega)) ?_
  refine JO.pur rfl rfl rfl (Pur.loadA rfl rfl rfl (CellsIn.el rfl (msgN_get hk))) ?_
  refine JO.setv (u' := nmV (msgN X k)) 28 rfl rfl ?_
  refine JO.eff rfl rfl rfl (Eff.alloc (cs := [_, _, _, _, _, _]) rfl) ?_
  rintro _ _ ⟨b5, rfl, rfl⟩
  refine JO.effN rfl rfl (Eff.storeBA (cs' := [_, _, _, _, _, _]) rfl rfl (by rfl) (by rfl) (by rfl)) ?_
  rintro _ _ ⟨rfl, rfl⟩
  refine JO.nil ?_
  refine J.seq rfl ?_
  refine J.region rfl ?_
  refine JO.pur rfl rfl rfl (Pur.move rfl) ?_
  refine JO.pur rfl rfl rfl (Pur.move rfl) ?_
  refine JO.pur rfl rfl rfl (Pur.nilCheck rfl) ?_
  refine JO.pur rfl rfl rfl (Pur.fieldAddr rfl) ?_
  refine JO.pur rfl rfl rfl (Pur.load rfl (CellIn.blk rfl)) ?_
  refine JO.pur rfl rfl rfl (Pur.move rfl) ?_
  refine JO.pur rfl rfl rfl (Pur.move rfl) ?_
  refine JO.pur rfl rfl rfl (Pur.add rfl rfl (wr64 (by omega))) ?_
  refine JO.eff rfl rfl rfl (Eff.call rfl (delN (i' := k) (j' := k + 1) rfl rfl rfl (by omega) (by omega) (by omega))) ?_
  rintro _ _ ⟨_, ⟨rfl, rfl⟩, rfl⟩
  rw [show X.fly.take k ++ X.fly.drop (k + 1) = (takeN X k).fly from rfl]
  refine JO.setv (u' := .slice fa (takeN X k).fly.length fc) 37 rfl (by rw [show (takeN X k).fly.length = k + (X.fly.length - (k + 1)) by show (X.fly.take k ++ X.fly.drop (k + 1)).length = _; rw [List.length_append, List.length_take, List.length_drop]; omega]) ?_
  refine JO.pur rfl rfl rfl (Pur.nilCheck rfl) ?_
  refine JO.pur rfl rfl rfl (Pur.fieldAddr rfl) ?_
  refine JO.effN rfl rfl (Eff.storeB rfl rfl rfl (.tail .head)) ?_
  rintro _ _ ⟨rfl, rfl⟩
  refine JO.nil ?_
  refine J.seq rfl ?_
  refine J.seq rfl ?_
  refine J.imp (M := NB p (takeN X k) :: blk b5 (nmC (msgN X k)) :: L) (fun h s => NB_mk (X := takeN X k) (ca := ca) (cc := cc) (fa := fa) (fc := fc) (ha := ha) (hc := hc) (sa := sa) (sc := sc) (hs := hs) (ss := ss) hb1 hb2 (SubC.out (M := blk p (nC ca X.cells.length cc fa (takeN X k).fly.length fc ha X.hd.length hc sa ss.length sc) :: sl hcE ca cc hs :: star (List.zipWith cA hs X.cells) :: sl nmE fa fc (takeN X k).fly :: sl hnE ha hc X.hd :: sl ctE sa sc ss :: blk b5 (nmC (msgN X k)) :: L) h s)) ?_
  refine J.region rfl ?_
  refine JO.pur rfl rfl rfl (Pur.fieldAddr rfl) ?_
  refine JO.pur rfl rfl rfl (Pur.load rfl (CellIn.blk rfl)) ?_
  refine JO.setv (u' := .int .i64 ((msgN X k).kd : Int)) 41 rfl rfl ?_
  refine JO.pur rfl rfl rfl (Pur.eqlI rfl rfl) ?_
  refine JO.nil ?_
  refine J.splitB 42 rfl (fun h42 => ?_) (fun h42 => ?_)
  · try simp only [decide_eq_true_eq, decide_eq_false_iff_not, Bool.not_eq_true', Bool.not_eq_false', Bool.and_eq_true, Bool.or_eq_true, Bool.and_eq_false_iff, Bool.or_eq_false_iff, Option.isNone_some, Option.isSome_some, Option.isNone_none, Option.isSome_none, Int.not_lt, Int.not_le, beq_iff_eq, beq_eq_false_iff_ne, bne_iff_ne, ne_eq, Bool.not_not, Decidable.not_not] at h42
    have hk4 : (msgN X k).kd = 4 := by omega
    refine J.condT rfl rfl ?_
    refine J.seq rfl ?_
    refine J.region rfl ?_
    refine JO.pur rfl rfl rfl (Pur.move rfl) ?_
    refine JO.pur rfl rfl rfl (Pur.fieldAddr rfl) ?_
    refine JO.pur rfl rfl rfl (Pur.load rfl (CellIn.blk rfl)) ?_
    refine JO.setv (u' := .int .i64 ((msgN X k).h : Int)) 45 rfl rfl ?_
    refine JO.pur rfl rfl rfl (Pur.fieldAddr rfl) ?_
    refine JO.pur rfl rfl rfl (Pur.load rfl (CellIn.blk rfl)) ?_
    refine JO.setv (u' := .int .i64 (msgN X k).v) 47 rfl rfl ?_
    refine JO.eff rfl rfl rfl (Eff.call rfl (ndone_ok (X := takeN X k) (k := (msgN X k).h) (z := (msgN X k).v) (h4 hk4).1 (h4 hk4).2 hh)) ?_
    rintro _ _ ⟨rfl, rfl⟩
    refine JO.nil ?_
    refine J.seq rfl ?_
    refine J.region rfl ?_
    refine JO.pur rfl rfl rfl (Pur.assign rfl) ?_
    refine JO.nil ?_
    refine J.ret rfl rfl ?_
    refine ⟨_, _, ⟨rfl, rfl⟩, rfl, fun h s => ?_⟩
    unfold dlvNt
    dsimp only
    first
    | (rw [if_pos hk4]; exact SubC.out h s)
    | (rw [if_neg hk4]; exact SubC.out h s)
  · try simp only [decide_eq_true_eq, decide_eq_false_iff_not, Bool.not_eq_true', Bool.not_eq_false', Bool.and_eq_true, Bool.or_eq_true, Bool.and_eq_false_iff, Bool.or_eq_false_iff, Option.isNone_some, Option.isSome_some, Option.isNone_none, Option.isSome_none, Int.not_lt, Int.not_le, beq_iff_eq, beq_eq_false_iff_ne, bne_iff_ne, ne_eq, Bool.not_not, Decidable.not_not] at h42
    have hk4 : ¬ (msgN X k).kd = 4 := by omega
    refine J.condF rfl rfl ?_
    refine J.skip rfl ?_
    refine J.seq rfl ?_
    refine J.region rfl ?_
    refine JO.pur rfl rfl rfl (Pur.move rfl) ?_
    refine JO.pur rfl rfl rfl (Pur.loadA rfl rfl rfl CellsIn.blk) ?_
    refine JO.setv (u' := nmV (msgN X k)) 50 rfl rfl ?_
    refine JO.eff rfl rfl rfl (Eff.call rfl (ndo_ok (X := takeN X k) (m := (msgN X k)) hto hcl)) ?_
    rintro _ _ ⟨rfl, rfl⟩
    refine JO.pur rfl rfl rfl (Pur.assign rfl) ?_
    refine JO.nil ?_
    refine J.seq rfl ?_
    refine J.region rfl ?_
    refine JO.pur rfl rfl rfl (Pur.move rfl) ?_
    refine JO.pur rfl rfl rfl (Pur.fieldAddr rfl) ?_
    refine JO.pur rfl rfl rfl (Pur.load rfl (CellIn.blk rfl)) ?_
    refine JO.pur rfl rfl rfl (Pur.fieldAddr rfl) ?_
    refine JO.pur rfl rfl rfl (Pur.load rfl (CellIn.blk rfl)) ?_
    refine JO.pur rfl rfl rfl (Pur.fieldAddr rfl) ?_
    refine JO.pur rfl rfl rfl (Pur.load rfl (CellIn.blk rfl)) ?_
    refine JO.pur rfl rfl rfl (Pur.move rfl) ?_
    refine JO.pur rfl rfl rfl (Pur.fieldAddr rfl) ?_
    refine JO.pur rfl rfl rfl (Pur.load rfl (CellIn.blk rfl)) ?_
    refine JO.pur rfl rfl rfl (Pur.build (cs := [_, _, _, _, _, _]) rfl rfl) ?_
    refine JO.eff rfl rfl rfl (Eff.call rfl (nsend_ok (X := doN (takeN X k) (msgN X k)) (m := ⟨(msgN X k).to, (msgN X k).fr, 4, (msgN X k).cl, doA (cellN X (msgN X k).to) (msgN X k), (msgN X k).h⟩) (by dsimp only; decide) (by show (takeN X k).fly.length ≤ _; omega) hsb)) ?_
    rintro _ _ ⟨rfl, rfl⟩
    refine JO.nil ?_
    refine J.seq rfl ?_
    refine J.region rfl ?_
    refine JO.pur rfl rfl rfl (Pur.assign rfl) ?_
    refine JO.nil ?_
    refine J.ret rfl rfl ?_
    refine ⟨_, _, ⟨rfl, rfl⟩, rfl, fun h s => ?_⟩
    unfold dlvNt
    dsimp only
    first
    | (rw [if_pos hk4]; exact SubC.out h s)
    | (rw [if_neg hk4]; exact SubC.out h s)

end Go.Proofs.Ytoikjjpleonllaa
