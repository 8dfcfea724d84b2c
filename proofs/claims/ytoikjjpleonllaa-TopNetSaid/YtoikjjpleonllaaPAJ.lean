/-
  A part of the proof of the claim that this folder bears.
-/
import Derived.Test.YtoikjjpleonllaaPAB
import Derived.Test.YtoikjjpleonllaaPAH
import Derived.Test.YtoikjjpleonllaaPAI
/- The text NRep. -/
set_option linter.unusedVariables false
set_option linter.unusedSimpArgs false
/-! A net, plain and in memory: one cell at each place. -/
namespace Nt
structure Nm where
  fr : Nat
  to : Nat
  kd : Nat
  cl : Nat
  v : Int
  h : Nat
  deriving Inhabited
structure Hn where
  fr : Nat
  v : Int
  dn : Bool
structure Ct where
  a : Int
  b : Int
  k : ByteArray
  m : Int
structure Ns where
  cells : List Int
  fly : List Nm
  hd : List Hn
  sb : Nat
def doV (x : Int) (m : Nm) : Int := if m.kd = 1 then m.v else if m.kd = 3 then Gr.wr (x + m.v) else x
def doA (x : Int) (m : Nm) : Int := if m.kd = 1 then 0 else x
def cellN (X : Ns) (q : Nat) : Int := X.cells.getD q 0
def doN (X : Ns) (m : Nm) : Ns := { X with cells := X.cells.set m.to (doV (cellN X m.to) m) }
def sendN (X : Ns) (m : Nm) : Ns := { X with fly := X.fly ++ [m], sb := X.sb + 1 }
def hN (X : Ns) (h : Nat) : Hn := X.hd.getD (h - 1) ⟨0, 0, false⟩
def doneN (X : Ns) (h : Nat) (v : Int) : Ns := { X with hd := X.hd.set (h - 1) ⟨(hN X h).fr, v, true⟩ }
def openN (X : Ns) (fr : Nat) : Ns := { X with hd := X.hd ++ [⟨fr, 0, false⟩] }
def reqN (X : Ns) (m : Nm) : Ns :=
  if m.fr = m.to then doneN (doN (openN X m.fr) { m with h := X.hd.length + 1 }) (X.hd.length + 1) (doA (cellN X m.to) m)
  else sendN (openN X m.fr) { m with h := X.hd.length + 1 }
def takeN (X : Ns) (k : Nat) : Ns := { X with fly := X.fly.take k ++ X.fly.drop (k + 1) }
def msgN (X : Ns) (k : Nat) : Nm := X.fly.getD k default
def dlvNt (X : Ns) (k : Nat) : Ns :=
  let m := msgN X k
  if m.kd = 4 then doneN (takeN X k) m.h m.v else sendN (doN (takeN X k) m) ⟨m.to, m.fr, 4, m.cl, doA (cellN X m.to) m, m.h⟩
theorem cell_get {X : Ns} {q : Nat} (h : q < X.cells.length) : X.cells[q]? = some (cellN X q) := by
  unfold cellN; rw [List.getD_eq_getElem?_getD, List.getElem?_eq_getElem h]; rfl
theorem hN_get {X : Ns} {h : Nat} (h1 : 1 ≤ h) (h2 : h ≤ X.hd.length) : X.hd[h - 1]? = some (hN X h) := by
  unfold hN; rw [List.getD_eq_getElem?_getD, List.getElem?_eq_getElem (by omega)]; rfl
theorem msgN_get {X : Ns} {k : Nat} (h : k < X.fly.length) : X.fly[k]? = some (msgN X k) := by
  unfold msgN; rw [List.getD_eq_getElem?_getD, List.getElem?_eq_getElem h]; rfl
def nmL : List ByteArray := [ByteArray.empty, ⟨#[112, 117, 116]⟩, ⟨#[103, 101, 116]⟩, ⟨#[97, 100, 100]⟩, ⟨#[97, 110, 115, 119, 101, 114]⟩]
def nmS (k : Nat) : ByteArray := nmL.getD k ByteArray.empty
end Nt
namespace Go.Proofs.Ytoikjjpleonllaa
open Go Go.KK Gr Nt
def hcE : Enc (Option Addr × Nat) := ⟨22, 1, fun p => [.slice p.1 1 p.2], fun _ => rfl, fun s v h => by
  simp only [List.mem_cons, List.not_mem_nil, or_false] at h; rcases h with rfl; rfl⟩
def nmE : Enc Nm := ⟨108, 6, fun m => [.int .i64 (m.fr : Int), .int .i64 (m.to : Int), .int .i64 (m.kd : Int), .int .i64 (m.cl : Int), .int .i64 m.v, .int .i64 (m.h : Int)], fun _ => rfl, fun s v h => by
  simp only [List.mem_cons, List.not_mem_nil, or_false] at h; rcases h with rfl | rfl | rfl | rfl | rfl | rfl <;> rfl⟩
def hnE : Enc Hn := ⟨128, 3, fun m => [.int .i64 (m.fr : Int), .int .i64 m.v, .bool m.dn], fun _ => rfl, fun s v h => by
  simp only [List.mem_cons, List.not_mem_nil, or_false] at h; rcases h with rfl | rfl | rfl <;> rfl⟩
def ctE : Enc Ct := ⟨135, 4, fun m => [.int .i64 m.a, .int .i64 m.b, .string m.k, .int .i64 m.m], fun _ => rfl, fun s v h => by
  simp only [List.mem_cons, List.not_mem_nil, or_false] at h; rcases h with rfl | rfl | rfl | rfl <;> rfl⟩
abbrev nmV (m : Nm) : Value := .agg #[.int .i64 (m.fr : Int), .int .i64 (m.to : Int), .int .i64 (m.kd : Int), .int .i64 (m.cl : Int), .int .i64 m.v, .int .i64 (m.h : Int)]
abbrev nmC (m : Nm) : Obj := .cells #[.int .i64 (m.fr : Int), .int .i64 (m.to : Int), .int .i64 (m.kd : Int), .int .i64 (m.cl : Int), .int .i64 m.v, .int .i64 (m.h : Int)] 108
abbrev nC (ca : Option Addr) (n cc : Nat) (fa : Option Addr) (fl fc : Nat) (ha : Option Addr) (hl hc : Nat) (sa : Option Addr) (sl_ sc : Nat) : Obj :=
  .cells #[.slice ca n cc, .slice fa fl fc, .slice ha hl hc, .slice sa sl_ sc] 105
abbrev cA : (Option Addr × Nat) → Int → Asn := fun hd x => sl intE hd.1 hd.2 [x]
structure NP where
  ca : Option Addr
  cc : Nat
  fa : Option Addr
  fc : Nat
  ha : Option Addr
  hc : Nat
  sa : Option Addr
  sc : Nat
  hs : List (Option Addr × Nat)
  ss : List Ct
@[irreducible] def NB (p : Nat) (X : Ns) : Asn := fun h => ∃ q : NP, (q.hs.length = X.cells.length ∧ q.ss.length ≤ X.sb) ∧
  star [blk p (nC q.ca X.cells.length q.cc q.fa X.fly.length q.fc q.ha X.hd.length q.hc q.sa q.ss.length q.sc), sl hcE q.ca q.cc q.hs, star (List.zipWith cA q.hs X.cells), sl nmE q.fa q.fc X.fly, sl hnE q.ha q.hc X.hd, sl ctE q.sa q.sc q.ss] h
theorem NB_mk {p : Nat} {X : Ns} {L : List Asn} {h : Hp} {ca fa ha sa : Option Addr} {cc fc hc sc : Nat} {hs : List (Option Addr × Nat)} {ss : List Ct} (h1 : hs.length = X.cells.length) (h2 : ss.length ≤ X.sb)
    (s : Sat h (blk p (nC ca X.cells.length cc fa X.fly.length fc ha X.hd.length hc sa ss.length sc) :: sl hcE ca cc hs :: star (List.zipWith cA hs X.cells) :: sl nmE fa fc X.fly :: sl hnE ha hc X.hd :: sl ctE sa sc ss :: L)) : Sat h (NB p X :: L) := by
  have h3 := (Sat.star (M := [blk p (nC ca X.cells.length cc fa X.fly.length fc ha X.hd.length hc sa ss.length sc), sl hcE ca cc hs, star (List.zipWith cA hs X.cells), sl nmE fa fc X.fly, sl hnE ha hc X.hd, sl ctE sa sc ss]) (L := L)).2 s
  exact h3.cons_imp (fun k hk => by unfold NB; exact ⟨⟨ca, cc, fa, fc, ha, hc, sa, sc, hs, ss⟩, ⟨h1, h2⟩, hk⟩) (fun _ h => h)
theorem NB_open {p : Nat} {X : Ns} {L : List Asn} {c : Cx} {F : Fr} {k : List Item}
    (h : ∀ (ca : Option Addr) (cc : Nat) (fa : Option Addr) (fc : Nat) (ha : Option Addr) (hc : Nat) (sa : Option Addr) (sc : Nat) (hs : List (Option Addr × Nat)) (ss : List Ct), hs.length = X.cells.length → ss.length ≤ X.sb →
      J c F (blk p (nC ca X.cells.length cc fa X.fly.length fc ha X.hd.length hc sa ss.length sc) :: sl hcE ca cc hs :: star (List.zipWith cA hs X.cells) :: sl nmE fa fc X.fly :: sl hnE ha hc X.hd :: sl ctE sa sc ss :: L) k) : J c F (NB p X :: L) k := by
  unfold NB
  refine J.ex fun q => ?_
  refine J.prop fun hq => ?_
  refine J.star ?_
  exact h q.ca q.cc q.fa q.fc q.ha q.hc q.sa q.sc q.hs q.ss hq.1 hq.2
end Go.Proofs.Ytoikjjpleonllaa

/- The text N1. -/
set_option linter.unusedVariables false
set_option linter.unusedSimpArgs false
set_option maxRecDepth 10000
namespace Go.Proofs.Ytoikjjpleonllaa
open Go Go.KK Gr Nt

theorem name_ok {L : List Asn} {k : Nat} (hk : k < 5) :
    CallS Try.prog 89 [.int .i64 (k : Int)].toArray L (fun v M => v = .string (nmS k) ∧ M = L) := by
  refine CallS.ent ?_
  refine CallS.enter Try.func89 rfl rfl rfl rfl rfl ?_
  refine J.seq rfl ?_
  refine J.region rfl ?_
  refine JO.pur rfl rfl rfl (Pur.assign rfl) ?_
  refine JO.nil ?_
  refine J.seq rfl ?_
  refine J.region rfl ?_
  refine JO.eff rfl rfl rfl (Eff.buildSlice strE nmL rfl rfl rfl rfl rfl rfl rfl) ?_
  rintro _ _ ⟨b3, rfl, -, rfl⟩
  refine JO.pur rfl rfl rfl (Pur.move rfl) ?_
  refine JO.pur rfl rfl rfl (Pur.idx rfl rfl rfl (by first | rfl | (simp; done) | omega | exact rfl) rfl (by exact hk)) ?_
  refine JO.pur rfl rfl rfl (Pur.load rfl (CellIn.el0 rfl (show nmL[k]? = some (nmS k) by unfold nmS; rw [List.getD_eq_getElem?_getD, List.getElem?_eq_getElem (by exact hk)]; rfl) rfl)) ?_
  refine JO.pur rfl rfl rfl (Pur.assign rfl) ?_
  refine JO.nil ?_
  refine J.ret rfl rfl ?_
  refine ⟨_, _, ⟨rfl, rfl⟩, rfl, SubC.out⟩

theorem nnone_ok {L : List Asn} {p : Nat} {ca fa ha sa : Option Addr} {n cc fl fc hl hc sn sc : Nat} [hb : BlkIn L p (nC ca n cc fa fl fc ha hl hc sa sn sc)] :
    CallS Try.prog 68 [.pointer (some ⟨p, 0, none⟩)].toArray L (fun v M => v = .bool (decide (n = 0)) ∧ M = L) := by
  refine CallS.ent ?_
  refine CallS.enter Try.func68 rfl rfl rfl rfl rfl ?_
  refine J.seq rfl ?_
  refine J.region rfl ?_
  refine JO.pur rfl rfl rfl (Pur.assign rfl) ?_
  refine JO.nil ?_
  refine J.seq rfl ?_
  refine J.region rfl ?_
  refine JO.pur rfl rfl rfl (Pur.move rfl) ?_
  refine JO.pur rfl rfl rfl (Pur.eqlPtrNil rfl) ?_
  refine JO.pur rfl rfl rfl (Pur.move rfl) ?_
  refine JO.setv (u' := .bool false) 5 rfl (congrArg Value.bool (rfl)) ?_
  refine JO.pur rfl rfl rfl (Pur.move rfl) ?_
  refine JO.pur rfl rfl rfl (Pur.nilCheck rfl) ?_
  refine JO.pur rfl rfl rfl (Pur.fieldAddr rfl) ?_
  refine JO.pur rfl rfl rfl (Pur.load rfl (CellIn.blk rfl)) ?_
  refine JO.pur rfl rfl rfl (Pur.len rfl) ?_
  refine JO.pur rfl rfl rfl (Pur.eqlI rfl rfl) ?_
  refine JO.pur rfl rfl rfl (Pur.pickF rfl rfl) ?_
  refine JO.pur rfl rfl rfl (Pur.assign rfl) ?_
  refine JO.nil ?_
  refine J.ret rfl rfl ?_
  refine ⟨_, _, ⟨rfl, rfl⟩, congrArg Value.bool (decide_eq_decide.2 (by omega)), SubC.out⟩

theorem isPlace_ok {L : List Asn} {p : Nat} {ca fa ha sa : Option Addr} {n cc fl fc hl hc sn sc : Nat} [hb : BlkIn L p (nC ca n cc fa fl fc ha hl hc sa sn sc)] {q : Int} :
    CallS Try.prog 74 [.pointer (some ⟨p, 0, none⟩), .int .i64 q].toArray L (fun v M => v = .bool (decide (0 ≤ q ∧ q < (n : Int))) ∧ M = L) := by
  refine CallS.ent ?_
  refine CallS.enter Try.func74 rfl rfl rfl rfl rfl ?_
  refine J.seq rfl ?_
  refine J.region rfl ?_
  refine JO.pur rfl rfl rfl (Pur.assign rfl) ?_
  refine JO.nil ?_
  refine J.seq rfl ?_
  refine J.region rfl ?_
  refine JO.pur rfl rfl rfl (Pur.move rfl) ?_
  refine JO.pur rfl rfl rfl (Pur.geq rfl rfl) ?_
  refine JO.pur rfl rfl rfl (Pur.move rfl) ?_
  refine JO.splitB 7 rfl (fun h7 => ?_) (fun h7 => ?_)
  · try simp only [decide_eq_true_eq, decide_eq_false_iff_not, Bool.not_eq_true', Bool.not_eq_false', Bool.and_eq_true, Bool.or_eq_true, Bool.and_eq_false_iff, Bool.or_eq_false_iff, Option.isNone_some, Option.isSome_some, Option.isNone_none, Option.isSome_none, Int.not_lt, Int.not_le, beq_iff_eq, beq_eq_false_iff_ne, bne_iff_ne, ne_eq, Bool.not_not, Decidable.not_not] at h7
    refine JO.pur rfl rfl rfl (Pur.move rfl) ?_
    refine JO.pur rfl rfl rfl (Pur.move rfl) ?_
    refine JO.pur rfl rfl rfl (Pur.nilCheck rfl) ?_
    refine JO.pur rfl rfl rfl (Pur.fieldAddr rfl) ?_
    refine JO.pur rfl rfl rfl (Pur.load rfl (CellIn.blk rfl)) ?_
    refine JO.pur rfl rfl rfl (Pur.len rfl) ?_
    refine JO.pur rfl rfl rfl (Pur.lss rfl rfl) ?_
    refine JO.pur rfl rfl rfl (Pur.pickT rfl rfl) ?_
    refine JO.pur rfl rfl rfl (Pur.assign rfl) ?_
    refine JO.nil ?_
    refine J.ret rfl rfl ?_
    refine ⟨_, _, ⟨rfl, rfl⟩, congrArg Value.bool (by first | exact decide_eq_decide.2 (by omega) | exact (decide_eq_false (by omega)).symm), SubC.out⟩
  · try simp only [decide_eq_true_eq, decide_eq_false_iff_not, Bool.not_eq_true', Bool.not_eq_false', Bool.and_eq_true, Bool.or_eq_true, Bool.and_eq_false_iff, Bool.or_eq_false_iff, Option.isNone_some, Option.isSome_some, Option.isNone_none, Option.isSome_none, Int.not_lt, Int.not_le, beq_iff_eq, beq_eq_false_iff_ne, bne_iff_ne, ne_eq, Bool.not_not, Decidable.not_not] at h7
    refine JO.no rfl rfl rfl ?_
    refine JO.no rfl rfl rfl ?_
    refine JO.no rfl rfl rfl ?_
    refine JO.no rfl rfl rfl ?_
    refine JO.no rfl rfl rfl ?_
    refine JO.no rfl rfl rfl ?_
    refine JO.no rfl rfl rfl ?_
    refine JO.pur rfl rfl rfl (Pur.pickF rfl rfl) ?_
    refine JO.pur rfl rfl rfl (Pur.assign rfl) ?_
    refine JO.nil ?_
    refine J.ret rfl rfl ?_
    refine ⟨_, _, ⟨rfl, rfl⟩, congrArg Value.bool (by first | exact decide_eq_decide.2 (by omega) | exact (decide_eq_false (by omega)).symm), SubC.out⟩

theorem isCell_ok {L : List Asn} {p : Nat} {ca fa ha sa : Option Addr} {n cc fl fc hl hc sn sc : Nat} [hb : BlkIn L p (nC ca n cc fa fl fc ha hl hc sa sn sc)] {q : Int} {hs : List (Option Addr × Nat)} [SlIn hcE L ca hs] (hn1 : 1 ≤ n) (hnl : n = hs.length) :
    CallS Try.prog 75 [.pointer (some ⟨p, 0, none⟩), .int .i64 q].toArray L (fun v M => v = .bool (decide (0 ≤ q ∧ q < 1)) ∧ M = L) := by
  obtain ⟨hd, hX⟩ : ∃ hd, hs[0]? = some hd := ⟨_, List.getElem?_eq_getElem (by omega)⟩
  refine CallS.ent ?_
  refine CallS.enter Try.func75 rfl rfl rfl rfl rfl ?_
  refine J.seq rfl ?_
  refine J.region rfl ?_
  refine JO.pur rfl rfl rfl (Pur.assign rfl) ?_
  refine JO.nil ?_
  refine J.seq rfl ?_
  refine J.region rfl ?_
  refine JO.pur rfl rfl rfl (Pur.move rfl) ?_
  refine JO.pur rfl rfl rfl (Pur.geq rfl rfl) ?_
  refine JO.pur rfl rfl rfl (Pur.move rfl) ?_
  refine JO.splitB 7 rfl (fun h7 => ?_) (fun h7 => ?_)
  · try simp only [decide_eq_true_eq, decide_eq_false_iff_not, Bool.not_eq_true', Bool.not_eq_false', Bool.and_eq_true, Bool.or_eq_true, Bool.and_eq_false_iff, Bool.or_eq_false_iff, Option.isNone_some, Option.isSome_some, Option.isNone_none, Option.isSome_none, Int.not_lt, Int.not_le, beq_iff_eq, beq_eq_false_iff_ne, bne_iff_ne, ne_eq, Bool.not_not, Decidable.not_not] at h7
    refine JO.pur rfl rfl rfl (Pur.move rfl) ?_
    refine JO.pur rfl rfl rfl (Pur.move rfl) ?_
    refine JO.pur rfl rfl rfl (Pur.nilCheck rfl) ?_
    refine JO.pur rfl rfl rfl (Pur.fieldAddr rfl) ?_
    refine JO.pur rfl rfl rfl (Pur.load rfl (CellIn.blk rfl)) ?_
    refine JO.pur rfl rfl rfl (Pur.idx rfl rfl rfl (by first | rfl | (simp; done) | omega) (show (0 : Int) = ((0 : Nat) : Int) from rfl) (by omega)) ?_
    refine JO.pur rfl rfl rfl (Pur.load rfl (CellIn.el0 rfl hX rfl)) ?_
    refine JO.pur rfl rfl rfl (Pur.len rfl) ?_
    refine JO.pur rfl rfl rfl (Pur.lss rfl rfl) ?_
    refine JO.pur rfl rfl rfl (Pur.pickT rfl rfl) ?_
    refine JO.pur rfl rfl rfl (Pur.assign rfl) ?_
    refine JO.nil ?_
    refine J.ret rfl rfl ?_
    refine ⟨_, _, ⟨rfl, rfl⟩, congrArg Value.bool (by first | exact decide_eq_decide.2 (by omega) | exact (decide_eq_false (by omega)).symm), SubC.out⟩
  · try simp only [decide_eq_true_eq, decide_eq_false_iff_not, Bool.not_eq_true', Bool.not_eq_false', Bool.and_eq_true, Bool.or_eq_true, Bool.and_eq_false_iff, Bool.or_eq_false_iff, Option.isNone_some, Option.isSome_some, Option.isNone_none, Option.isSome_none, Int.not_lt, Int.not_le, beq_iff_eq, beq_eq_false_iff_ne, bne_iff_ne, ne_eq, Bool.not_not, Decidable.not_not] at h7
    refine JO.no rfl rfl rfl ?_
    refine JO.no rfl rfl rfl ?_
    refine JO.no rfl rfl rfl ?_
    refine JO.no rfl rfl rfl ?_
    refine JO.no rfl rfl rfl ?_
    refine JO.no rfl rfl rfl ?_
    refine JO.no rfl rfl rfl ?_
    refine JO.no rfl rfl rfl ?_
    refine JO.no rfl rfl rfl ?_
    refine JO.pur rfl rfl rfl (Pur.pickF rfl rfl) ?_
    refine JO.pur rfl rfl rfl (Pur.assign rfl) ?_
    refine JO.nil ?_
    refine J.ret rfl rfl ?_
    refine ⟨_, _, ⟨rfl, rfl⟩, congrArg Value.bool (by first | exact decide_eq_decide.2 (by omega) | exact (decide_eq_false (by omega)).symm), SubC.out⟩

theorem nsend_ok {L : List Asn} {p : Nat} {X : Ns} {m : Nm} (hk : m.kd < 5) (hf : X.fly.length ≤ 100000) (hsb : X.sb ≤ 100000) :
    CallS Try.prog 73 [.pointer (some ⟨p, 0, none⟩), nmV m].toArray (NB p X :: L) (fun v M => v = .tuple #[] ∧ M = NB p (sendN X m) :: L) := by
  refine CallS.ent ?_
  refine CallS.enter Try.func73 rfl rfl rfl rfl rfl ?_
  refine NB_open fun ca cc fa fc ha hc sa sc hs ss hb1 hb2 => ?_
  refine J.seq rfl ?_
  refine J.region rfl ?_
  refine JO.eff rfl rfl rfl (Eff.box (cs := [_, _, _, _, _, _]) rfl rfl) ?_
  rintro _ _ ⟨b3, rfl, rfl⟩
  refine JO.nil ?_
  refine J.seq rfl ?_
  refine J.mask0 (n := 11) [7, 10] rfl Try.mixed rfl (by kernel_rfl) ?_
  refine JM.takeF 0 (.inr (fun _ h => h)) rfl (by kernel_rfl) rfl rfl rfl (m' := 1) rfl (Pur.move rfl) ?_
  refine JM.take 1 (fun _ h => h) rfl (by kernel_rfl) rfl rfl rfl (m' := 3) rfl (Pur.move rfl) ?_
  refine JM.take 2 (fun _ h => h) rfl (by kernel_rfl) rfl rfl rfl (m' := 7) rfl (Pur.nilCheck rfl) ?_
  refine JM.take 3 (fun _ h => h) rfl (by kernel_rfl) rfl rfl rfl (m' := 15) rfl (Pur.fieldAddr rfl) ?_
  refine JM.take 4 (fun _ h => h) rfl (by kernel_rfl) rfl rfl rfl (m' := 31) rfl (Pur.load rfl (CellIn.blk rfl)) ?_
  refine JM.take 5 (fun _ h => h) rfl (by kernel_rfl) rfl rfl rfl (m' := 63) rfl (Pur.loadA rfl rfl rfl CellsIn.blk) ?_
  refine JM.setv (u' := nmV m) 11 rfl rfl ?_
  refine JM.one (i := 6) (by kernel_rfl) ?_
  refine JMi.eff rfl rfl rfl rfl (m' := 127) rfl (Eff.buildSlice nmE [m] rfl rfl rfl rfl rfl rfl rfl) ?_
  rintro _ _ ⟨b12, rfl, -, rfl⟩
  refine ⟨.inr (fun _ h => h.tail), ?_⟩
  refine JM.one (i := 7) (by kernel_rfl) ?_
  refine JMi.eff rfl rfl rfl rfl (m' := 255) rfl (Eff.append rfl rfl rfl rfl (by first | rfl | omega | (simp; done) | (simp; omega)) (by first | rfl | omega | (simp; done) | (simp; omega)) (by decide) (by simp; omega) (by simp; omega) (fun h => by cases h)) ?_
  rintro _ _ ⟨a13, c13, rfl, rfl⟩
  refine ⟨.inl (by simp), ?_⟩
  refine JM.takeF 8 (.inl (by kernel_rfl)) rfl (by kernel_rfl) rfl rfl rfl (m' := 511) rfl (Pur.nilCheck rfl) ?_
  refine JM.takeF 9 (.inl (by kernel_rfl)) rfl (by kernel_rfl) rfl rfl rfl (m' := 1023) rfl (Pur.fieldAddr rfl) ?_
  refine JM.one (i := 10) (by kernel_rfl) ?_
  refine JMi.effN rfl rfl rfl (m' := 2047) rfl (Eff.storeB rfl rfl rfl (.tail .head)) ?_
  rintro _ _ ⟨rfl, rfl⟩
  refine ⟨.inl (by simp), ?_⟩
  refine JM.done rfl ?_
  refine J.seq rfl ?_
  refine J.seq rfl ?_
  refine J.region rfl ?_
  refine JO.pur rfl rfl rfl (Pur.move rfl) ?_
  refine JO.pur rfl rfl rfl (Pur.nilCheck rfl) ?_
  refine JO.pur rfl rfl rfl (Pur.fieldAddr rfl) ?_
  refine JO.pur rfl rfl rfl (Pur.load rfl (CellIn.blk rfl)) ?_
  refine JO.pur rfl rfl rfl (Pur.len rfl) ?_
  refine JO.pur rfl rfl rfl (Pur.move rfl) ?_
  refine JO.nil ?_
  refine J.block rfl ?_
  refine J.loopF (ι := Nat) (fun q => q ≤ ss.length) (fun q => [(21, .int .i64 (q : Int))]) [(0, _), (3, _), (20, _)] (fun q => blk b3 (nmC m) :: blk p (nC ca X.cells.length cc a13 (X.fly ++ [m]).length c13 ha X.hd.length hc sa ss.length sc) :: sl hcE ca cc hs :: star (List.zipWith cA hs X.cells) :: sl nmE a13 c13 (X.fly ++ [m]) :: sl hnE ha hc X.hd :: sl ctE sa sc ss :: L) (fun q => ss.length - q) 0 rfl (.cons rfl rfl (.cons rfl rfl (.cons rfl rfl .nil))) (.cons rfl rfl .nil) (fun h s => by have e : X.fly.length + 1 = (X.fly ++ [m]).length := (by simp); simp only [List.length_singleton] at s; rw [e] at s; exact SubC.out h s) (Nat.zero_le _) ?_
  rintro q hq ihq
  try dsimp only
  refine J.seq rfl ?_
  refine J.region rfl ?_
  refine JO.pur rfl rfl rfl (Pur.lss rfl rfl) ?_
  refine JO.nil ?_
  refine J.seq rfl ?_
  refine J.splitB 22 rfl (fun h22 => ?_) (fun h22 => ?_)
  · try simp only [decide_eq_true_eq, decide_eq_false_iff_not, Bool.not_eq_true', Bool.not_eq_false', Bool.and_eq_true, Bool.or_eq_true, Bool.and_eq_false_iff, Bool.or_eq_false_iff, Option.isNone_some, Option.isSome_some, Option.isNone_none, Option.isSome_none, Int.not_lt, Int.not_le, beq_iff_eq, beq_eq_false_iff_ne, bne_iff_ne, ne_eq, Bool.not_not, Decidable.not_not] at h22
    have hql : q < ss.length := by omega
    obtain ⟨y, hY⟩ : ∃ y, ss[q]? = some y := ⟨_, List.getElem?_eq_getElem hql⟩
    refine J.condT rfl rfl ?_
    refine J.skip rfl ?_
    refine J.seq rfl ?_
    refine J.block rfl ?_
    refine J.seq rfl ?_
    refine J.region rfl ?_
    refine JO.pur rfl rfl rfl (Pur.move rfl) ?_
    refine JO.pur rfl rfl rfl (Pur.assign rfl) ?_
    refine JO.nil ?_
    refine J.seq rfl ?_
    refine J.region rfl ?_
    refine JO.pur rfl rfl rfl (Pur.move rfl) ?_
    refine JO.pur rfl rfl rfl (Pur.nilCheck rfl) ?_
    refine JO.pur rfl rfl rfl (Pur.fieldAddr rfl) ?_
    refine JO.pur rfl rfl rfl (Pur.load rfl (CellIn.blk rfl)) ?_
    refine JO.pur rfl rfl rfl (Pur.move rfl) ?_
    refine JO.pur rfl rfl rfl (Pur.idx rfl rfl rfl (by first | rfl | (simp; done) | omega) rfl (by omega)) ?_
    refine JO.pur rfl rfl rfl (Pur.assign rfl) ?_
    refine JO.nil ?_
    refine J.seq rfl ?_
    refine J.quiet rfl Try.mixed (by kernel_rfl) ?_
    refine JQ.pur rfl rfl rfl (Pur.move rfl) ?_
    refine JQ.pur rfl rfl rfl (Pur.nilCheck rfl) ?_
    refine JQ.pur rfl rfl rfl (Pur.fieldAddr rfl) ?_
    refine JQ.pur rfl rfl rfl (Pur.load rfl (CellIn.el rfl hY rfl)) ?_
    refine JQ.pur rfl rfl rfl (Pur.fieldAddr rfl) ?_
    refine JQ.pur rfl rfl rfl (Pur.load rfl (CellIn.blk rfl)) ?_
    refine JQ.pur rfl rfl rfl (Pur.eqlI rfl rfl) ?_
    refine JQ.pur rfl rfl rfl (Pur.move rfl) ?_
    refine JQ.splitB 37 rfl (fun h37 => ?_) (fun h37 => ?_)
    · try simp only [decide_eq_true_eq, decide_eq_false_iff_not, Bool.not_eq_true', Bool.not_eq_false', Bool.and_eq_true, Bool.or_eq_true, Bool.and_eq_false_iff, Bool.or_eq_false_iff, Option.isNone_some, Option.isSome_some, Option.isNone_none, Option.isSome_none, Int.not_lt, Int.not_le, beq_iff_eq, beq_eq_false_iff_ne, bne_iff_ne, ne_eq, Bool.not_not, Decidable.not_not] at h37
      refine JQ.pur rfl rfl rfl (Pur.move rfl) ?_
      refine JQ.pur rfl rfl rfl (Pur.nilCheck rfl) ?_
      refine JQ.pur rfl rfl rfl (Pur.fieldAddr rfl) ?_
      refine JQ.pur rfl rfl rfl (Pur.load rfl (CellIn.el rfl hY rfl)) ?_
      refine JQ.pur rfl rfl rfl (Pur.fieldAddr rfl) ?_
      refine JQ.pur rfl rfl rfl (Pur.load rfl (CellIn.blk rfl)) ?_
      refine JQ.pur rfl rfl rfl (Pur.eqlI rfl rfl) ?_
      refine JQ.pur rfl rfl rfl (Pur.pickT rfl rfl) ?_
      refine JQ.pur rfl rfl rfl (Pur.move rfl) ?_
      refine JQ.splitB 46 rfl (fun h46 => ?_) (fun h46 => ?_)
      · try simp only [decide_eq_true_eq, decide_eq_false_iff_not, Bool.not_eq_true', Bool.not_eq_false', Bool.and_eq_true, Bool.or_eq_true, Bool.and_eq_false_iff, Bool.or_eq_false_iff, Option.isNone_some, Option.isSome_some, Option.isNone_none, Option.isSome_none, Int.not_lt, Int.not_le, beq_iff_eq, beq_eq_false_iff_ne, bne_iff_ne, ne_eq, Bool.not_not, Decidable.not_not] at h46
        refine JQ.pur rfl rfl rfl (Pur.move rfl) ?_
        refine JQ.pur rfl rfl rfl (Pur.nilCheck rfl) ?_
        refine JQ.pur rfl rfl rfl (Pur.fieldAddr rfl) ?_
        refine JQ.pur rfl rfl rfl (Pur.load rfl (CellIn.el rfl hY rfl)) ?_
        refine JQ.pur rfl rfl rfl (Pur.fieldAddr rfl) ?_
        refine JQ.pur rfl rfl rfl (Pur.load rfl (CellIn.blk rfl)) ?_
        refine JQ.setv (u' := .int .i64 (m.kd : Int)) 52 rfl rfl ?_
        refine JQ.callE rfl rfl rfl (name_ok (k := m.kd) hk) ?_
        refine JQ.pur rfl rfl rfl (Pur.eqlT rfl rfl) ?_
        refine JQ.pur rfl rfl rfl (Pur.pickT rfl rfl) ?_
        refine JQ.nil ?_
        refine J.splitB 55 rfl (fun h55 => ?_) (fun h55 => ?_)
        · try simp only [decide_eq_true_eq, decide_eq_false_iff_not, Bool.not_eq_true', Bool.not_eq_false', Bool.and_eq_true, Bool.or_eq_true, Bool.and_eq_false_iff, Bool.or_eq_false_iff, Option.isNone_some, Option.isSome_some, Option.isNone_none, Option.isSome_none, Int.not_lt, Int.not_le, beq_iff_eq, beq_eq_false_iff_ne, bne_iff_ne, ne_eq, Bool.not_not, Decidable.not_not] at h55
          refine J.condT rfl rfl ?_
          refine J.seq rfl ?_
          refine J.region rfl ?_
          refine JO.pur rfl rfl rfl (Pur.move rfl) ?_
          refine JO.pur rfl rfl rfl (Pur.nilCheck rfl) ?_
          refine JO.pur rfl rfl rfl (Pur.fieldAddr rfl) ?_
          refine JO.pur rfl rfl rfl (Pur.load rfl (CellIn.el rfl hY rfl)) ?_
          refine JO.setv (u' := .int .i64 y.m) 59 rfl rfl ?_
          refine JO.pur rfl rfl rfl (Pur.addW rfl rfl) ?_
          refine JO.pur rfl rfl rfl (Pur.nilCheck rfl) ?_
          refine JO.pur rfl rfl rfl (Pur.fieldAddr rfl) ?_
          refine JO.effN rfl rfl (Eff.storeS (z' := { y with m := IntKind.i64.wrap (y.m + 1) }) rfl rfl rfl rfl hY (.tail (.tail (.tail .head)))) ?_
          rintro _ _ ⟨rfl, rfl⟩
          refine JO.nil ?_
          refine J.ret rfl rfl ?_
          refine ⟨_, _, ⟨rfl, rfl⟩, rfl, fun h s => ?_⟩
          have e : ss.length = (ss.set q { y with m := IntKind.i64.wrap (y.m + 1) }).length := by simp
          have hb3 : (ss.set q { y with m := IntKind.i64.wrap (y.m + 1) }).length ≤ X.sb + 1 := by omega
          refine NB_mk (X := sendN X m) (ca := ca) (cc := cc) (fa := a13) (fc := c13) (ha := ha) (hc := hc) (sa := sa) (sc := sc) (hs := hs) (ss := ss.set q { y with m := IntKind.i64.wrap (y.m + 1) }) hb1 hb3 ?_
          rw [e] at s
          show Sat h (blk p (nC ca X.cells.length cc a13 (X.fly ++ [m]).length c13 ha X.hd.length hc sa (ss.set q { y with m := IntKind.i64.wrap (y.m + 1) }).length sc) :: sl hcE ca cc hs :: star (List.zipWith cA hs X.cells) :: sl nmE a13 c13 (X.fly ++ [m]) :: sl hnE ha hc X.hd :: sl ctE sa sc (ss.set q { y with m := IntKind.i64.wrap (y.m + 1) }) :: L)
          exact SubC.out h s
        · try simp only [decide_eq_true_eq, decide_eq_false_iff_not, Bool.not_eq_true', Bool.not_eq_false', Bool.and_eq_true, Bool.or_eq_true, Bool.and_eq_false_iff, Bool.or_eq_false_iff, Option.isNone_some, Option.isSome_some, Option.isNone_none, Option.isSome_none, Int.not_lt, Int.not_le, beq_iff_eq, beq_eq_false_iff_ne, bne_iff_ne, ne_eq, Bool.not_not, Decidable.not_not] at h55
          refine J.condF rfl rfl ?_
          refine J.skip rfl ?_
          refine J.inBlock ?_
          refine J.region rfl ?_
          refine JO.pur rfl rfl rfl (Pur.add rfl rfl (wr64 (by omega))) ?_
          refine JO.pur rfl rfl rfl (Pur.move rfl) ?_
          refine JO.nil ?_
          exact J.weaken (.cons rfl (congrArg (Value.int .i64) (by first | rfl | (dsimp only; omega))) (.cons rfl rfl (.cons rfl rfl (.cons rfl rfl .nil)))) (by first | exact fun _ h => h | exact SubC.out | (dsimp only; exact SubC.out)) (ihq (q + 1) (by omega) (by omega))
      · try simp only [decide_eq_true_eq, decide_eq_false_iff_not, Bool.not_eq_true', Bool.not_eq_false', Bool.and_eq_true, Bool.or_eq_true, Bool.and_eq_false_iff, Bool.or_eq_false_iff, Option.isNone_some, Option.isSome_some, Option.isNone_none, Option.isSome_none, Int.not_lt, Int.not_le, beq_iff_eq, beq_eq_false_iff_ne, bne_iff_ne, ne_eq, Bool.not_not, Decidable.not_not] at h46
        refine JQ.no rfl rfl rfl ?_
        refine JQ.no rfl rfl rfl ?_
        refine JQ.no rfl rfl rfl ?_
        refine JQ.no rfl rfl rfl ?_
        refine JQ.no rfl rfl rfl ?_
        refine JQ.no rfl rfl rfl ?_
        refine JQ.no rfl rfl rfl ?_
        refine JQ.no rfl rfl rfl ?_
        refine JQ.pur rfl rfl rfl (Pur.pickF rfl rfl) ?_
        refine JQ.nil ?_
        refine J.condF rfl rfl ?_
        refine J.skip rfl ?_
        refine J.inBlock ?_
        refine J.region rfl ?_
        refine JO.pur rfl rfl rfl (Pur.add rfl rfl (wr64 (by omega))) ?_
        refine JO.pur rfl rfl rfl (Pur.move rfl) ?_
        refine JO.nil ?_
        exact J.weaken (.cons rfl (congrArg (Value.int .i64) (by first | rfl | (dsimp only; omega))) (.cons rfl rfl (.cons rfl rfl (.cons rfl rfl .nil)))) (by first | exact fun _ h => h | exact SubC.out | (dsimp only; exact SubC.out)) (ihq (q + 1) (by omega) (by omega))
    · try simp only [decide_eq_true_eq, decide_eq_false_iff_not, Bool.not_eq_true', Bool.not_eq_false', Bool.and_eq_true, Bool.or_eq_true, Bool.and_eq_false_iff, Bool.or_eq_false_iff, Option.isNone_some, Option.isSome_some, Option.isNone_none, Option.isSome_none, Int.not_lt, Int.not_le, beq_iff_eq, beq_eq_false_iff_ne, bne_iff_ne, ne_eq, Bool.not_not, Decidable.not_not] at h37
      refine JQ.no rfl rfl rfl ?_
      refine JQ.no rfl rfl rfl ?_
      refine JQ.no rfl rfl rfl ?_
      refine JQ.no rfl rfl rfl ?_
      refine JQ.no rfl rfl rfl ?_
      refine JQ.no rfl rfl rfl ?_
      refine JQ.no rfl rfl rfl ?_
      refine JQ.pur rfl rfl rfl (Pur.pickF rfl rfl) ?_
      refine JQ.pur rfl rfl rfl (Pur.move rfl) ?_
      refine JQ.no rfl rfl rfl ?_
      refine JQ.no rfl rfl rfl ?_
      refine JQ.no rfl rfl rfl ?_
      refine JQ.no rfl rfl rfl ?_
      refine JQ.no rfl rfl rfl ?_
      refine JQ.no rfl rfl rfl ?_
      refine JQ.no rfl rfl rfl ?_
      refine JQ.no rfl rfl rfl ?_
      refine JQ.pur rfl rfl rfl (Pur.pickF rfl rfl) ?_
      refine JQ.nil ?_
      refine J.condF rfl rfl ?_
      refine J.skip rfl ?_
      refine J.inBlock ?_
      refine J.region rfl ?_
      refine JO.pur rfl rfl rfl (Pur.add rfl rfl (wr64 (by omega))) ?_
      refine JO.pur rfl rfl rfl (Pur.move rfl) ?_
      refine JO.nil ?_
      exact J.weaken (.cons rfl (congrArg (Value.int .i64) (by first | rfl | (dsimp only; omega))) (.cons rfl rfl (.cons rfl rfl (.cons rfl rfl .nil)))) (by first | exact fun _ h => h | exact SubC.out | (dsimp only; exact SubC.out)) (ihq (q + 1) (by omega) (by omega))
  · try simp only [decide_eq_true_eq, decide_eq_false_iff_not, Bool.not_eq_true', Bool.not_eq_false', Bool.and_eq_true, Bool.or_eq_true, Bool.and_eq_false_iff, Bool.or_eq_false_iff, Option.isNone_some, Option.isSome_some, Option.isNone_none, Option.isSome_none, Int.not_lt, Int.not_le, beq_iff_eq, beq_eq_false_iff_ne, bne_iff_ne, ne_eq, Bool.not_not, Decidable.not_not] at h22
    refine J.condF rfl rfl ?_
    refine J.exit rfl rfl ?_
    refine J.mask0 (n := 18) [14, 17] rfl Try.mixed rfl (by kernel_rfl) ?_
    refine JM.takeF 0 (.inr (fun _ h => h)) rfl (by kernel_rfl) rfl rfl rfl (m' := 1) rfl (Pur.move rfl) ?_
    refine JM.take 1 (fun _ h => h) rfl (by kernel_rfl) rfl rfl rfl (m' := 3) rfl (Pur.move rfl) ?_
    refine JM.take 2 (fun _ h => h) rfl (by kernel_rfl) rfl rfl rfl (m' := 7) rfl (Pur.nilCheck rfl) ?_
    refine JM.take 3 (fun _ h => h) rfl (by kernel_rfl) rfl rfl rfl (m' := 15) rfl (Pur.fieldAddr rfl) ?_
    refine JM.take 4 (fun _ h => h) rfl (by kernel_rfl) rfl rfl rfl (m' := 31) rfl (Pur.load rfl (CellIn.blk rfl)) ?_
    refine JM.take 5 (fun _ h => h) rfl (by kernel_rfl) rfl rfl rfl (m' := 63) rfl (Pur.fieldAddr rfl) ?_
    refine JM.take 6 (fun _ h => h) rfl (by kernel_rfl) rfl rfl rfl (m' := 127) rfl (Pur.load rfl (CellIn.blk rfl)) ?_
    refine JM.take 7 (fun _ h => h) rfl (by kernel_rfl) rfl rfl rfl (m' := 255) rfl (Pur.fieldAddr rfl) ?_
    refine JM.take 8 (fun _ h => h) rfl (by kernel_rfl) rfl rfl rfl (m' := 511) rfl (Pur.load rfl (CellIn.blk rfl)) ?_
    refine JM.take 9 (fun _ h => h) rfl (by kernel_rfl) rfl rfl rfl (m' := 1023) rfl (Pur.fieldAddr rfl) ?_
    refine JM.take 10 (fun _ h => h) rfl (by kernel_rfl) rfl rfl rfl (m' := 2047) rfl (Pur.load rfl (CellIn.blk rfl)) ?_
    refine JM.setv (u' := .int .i64 (m.kd : Int)) 74 rfl rfl ?_
    refine JM.one (i := 11) (by kernel_rfl) ?_
    refine JMi.effR (fun _ h => h) rfl rfl rfl rfl (m' := 4095) rfl (Eff.call rfl (name_ok (k := m.kd) hk)) ?_
    refine JM.take 12 (fun _ h => h) rfl (by kernel_rfl) rfl rfl rfl (m' := 8191) rfl (Pur.build (cs := [_, _, _, _]) rfl rfl) ?_
    refine JM.one (i := 13) (by kernel_rfl) ?_
    refine JMi.eff rfl rfl rfl rfl (m' := 16383) rfl (Eff.buildSlice ctE [(⟨(m.fr : Int), (m.to : Int), nmS m.kd, 1⟩ : Ct)] rfl rfl rfl rfl rfl rfl rfl) ?_
    rintro _ _ ⟨b77, rfl, -, rfl⟩
    refine ⟨.inr (fun _ h => h.tail), ?_⟩
    refine JM.one (i := 14) (by kernel_rfl) ?_
    refine JMi.eff rfl rfl rfl rfl (m' := 32767) rfl (Eff.append rfl rfl rfl rfl (by first | rfl | omega | (simp; done) | (simp; omega)) (by first | rfl | omega | (simp; done) | (simp; omega)) (by decide) (by simp; omega) (by simp; omega) (fun h => by cases h)) ?_
    rintro _ _ ⟨a78, c78, rfl, rfl⟩
    refine ⟨.inl (by simp), ?_⟩
    refine JM.takeF 15 (.inl (by kernel_rfl)) rfl (by kernel_rfl) rfl rfl rfl (m' := 65535) rfl (Pur.nilCheck rfl) ?_
    refine JM.takeF 16 (.inl (by kernel_rfl)) rfl (by kernel_rfl) rfl rfl rfl (m' := 131071) rfl (Pur.fieldAddr rfl) ?_
    refine JM.one (i := 17) (by kernel_rfl) ?_
    refine JMi.effN rfl rfl rfl (m' := 262143) rfl (Eff.storeB rfl rfl rfl (.tail (.tail (.tail .head)))) ?_
    rintro _ _ ⟨rfl, rfl⟩
    refine ⟨.inl (by simp), ?_⟩
    refine JM.done rfl ?_
    refine J.fin rfl ?_
    refine ⟨_, _, ⟨rfl, rfl⟩, rfl, fun h s => ?_⟩
    have e : ss.length + 1 = (ss ++ [(⟨(m.fr : Int), (m.to : Int), nmS m.kd, 1⟩ : Ct)]).length := by simp
    have hb3 : (ss ++ [(⟨(m.fr : Int), (m.to : Int), nmS m.kd, 1⟩ : Ct)]).length ≤ X.sb + 1 := by omega
    refine NB_mk (X := sendN X m) (ca := ca) (cc := cc) (fa := a13) (fc := c13) (ha := ha) (hc := hc) (sa := a78) (sc := c78) (hs := hs) (ss := ss ++ [(⟨(m.fr : Int), (m.to : Int), nmS m.kd, 1⟩ : Ct)]) hb1 hb3 ?_
    simp only [List.length_singleton] at s; rw [e] at s
    show Sat h (blk p (nC ca X.cells.length cc a13 (X.fly ++ [m]).length c13 ha X.hd.length hc a78 (ss ++ [(⟨(m.fr : Int), (m.to : Int), nmS m.kd, 1⟩ : Ct)]).length c78) :: sl hcE ca cc hs :: star (List.zipWith cA hs X.cells) :: sl nmE a13 c13 (X.fly ++ [m]) :: sl hnE ha hc X.hd :: sl ctE a78 c78 (ss ++ [(⟨(m.fr : Int), (m.to : Int), nmS m.kd, 1⟩ : Ct)]) :: L)
    exact SubC.out h s

theorem ndone_ok {L : List Asn} {p : Nat} {X : Ns} {k : Nat} {z : Int} (hk1 : 1 ≤ k) (hk2 : k ≤ X.hd.length) (hk3 : X.hd.length ≤ 100000) :
    CallS Try.prog 71 [.pointer (some ⟨p, 0, none⟩), .int .i64 (k : Int), .int .i64 z].toArray (NB p X :: L) (fun v M => v = .tuple #[] ∧ M = NB p (doneN X k z) :: L) := by
  have hY := hN_get hk1 hk2
  refine CallS.ent ?_
  refine CallS.enter Try.func71 rfl rfl rfl rfl rfl ?_
  refine NB_open fun ca cc fa fc ha hc sa sc hs ss hb1 hb2 => ?_
  refine J.seq rfl ?_
  refine J.region rfl ?_
  refine JO.pur rfl rfl rfl (Pur.move rfl) ?_
  refine JO.pur rfl rfl rfl (Pur.nilCheck rfl) ?_
  refine JO.pur rfl rfl rfl (Pur.fieldAddr rfl) ?_
  refine JO.pur rfl rfl rfl (Pur.load rfl (CellIn.blk rfl)) ?_
  refine JO.pur rfl rfl rfl (Pur.move rfl) ?_
  refine JO.pur rfl rfl rfl (Pur.sub rfl rfl (wr64 (by omega))) ?_
  refine JO.pur rfl rfl rfl (Pur.idx rfl rfl rfl (by first | rfl | (simp; done) | omega) (show (k : Int) - 1 = ((k - 1 : Nat) : Int) by omega) (by omega)) ?_
  refine JO.pur rfl rfl rfl (Pur.assign rfl) ?_
  refine JO.nil ?_
  have hY2 : (X.hd.set (k - 1) (⟨(hN X k).fr, z, (hN X k).dn⟩ : Hn))[k - 1]? = some (⟨(hN X k).fr, z, (hN X k).dn⟩ : Hn) := by rw [List.getElem?_set]; simp; omega
  refine J.region rfl ?_
  refine JO.pur rfl rfl rfl (Pur.move rfl) ?_
  refine JO.pur rfl rfl rfl (Pur.move rfl) ?_
  refine JO.pur rfl rfl rfl (Pur.move rfl) ?_
  refine JO.pur rfl rfl rfl (Pur.nilCheck rfl) ?_
  refine JO.pur rfl rfl rfl (Pur.fieldAddr rfl) ?_
  refine JO.effN rfl rfl (Eff.storeS (z' := (⟨(hN X k).fr, z, (hN X k).dn⟩ : Hn)) rfl rfl rfl rfl hY (.tail .head)) ?_
  rintro _ _ ⟨rfl, rfl⟩
  refine JO.pur rfl rfl rfl (Pur.nilCheck rfl) ?_
  refine JO.pur rfl rfl rfl (Pur.fieldAddr rfl) ?_
  refine JO.effN rfl rfl (Eff.storeS (z' := (⟨(hN X k).fr, z, true⟩ : Hn)) rfl rfl rfl rfl hY2 (.tail (.tail .head))) ?_
  rintro _ _ ⟨rfl, rfl⟩
  refine JO.nil ?_
  refine J.fin rfl ?_
  refine ⟨_, _, ⟨rfl, rfl⟩, rfl, fun h s => ?_⟩
  rw [List.set_set] at s
  have e : X.hd.length = (X.hd.set (k - 1) (⟨(hN X k).fr, z, true⟩ : Hn)).length := by simp
  rw [e] at s
  refine NB_mk (X := doneN X k z) (ca := ca) (cc := cc) (fa := fa) (fc := fc) (ha := ha) (hc := hc) (sa := sa) (sc := sc) (hs := hs) (ss := ss) hb1 hb2 ?_
  show Sat h (blk p (nC ca X.cells.length cc fa X.fly.length fc ha (X.hd.set (k - 1) (⟨(hN X k).fr, z, true⟩ : Hn)).length hc sa ss.length sc) :: sl hcE ca cc hs :: star (List.zipWith cA hs X.cells) :: sl nmE fa fc X.fly :: sl hnE ha hc (X.hd.set (k - 1) (⟨(hN X k).fr, z, true⟩ : Hn)) :: sl ctE sa sc ss :: L)
  exact SubC.out h s

theorem ndo_ok {L : List Asn} {p : Nat} {X : Ns} {m : Nm} (hto : m.to < X.cells.length) (hcl : m.cl = 0) :
    CallS Try.prog 72 [.pointer (some ⟨p, 0, none⟩), nmV m].toArray (NB p X :: L) (fun v M => v = .int .i64 (doA (cellN X m.to) m) ∧ M = NB p (doN X m) :: L) := by
  refine CallS.ent ?_
  refine CallS.enter Try.func72 rfl rfl rfl rfl rfl ?_
  refine NB_open fun ca cc fa fc ha hc sa sc hs ss hb1 hb2 => ?_
  obtain ⟨hd, hbi⟩ : ∃ hd, hs[m.to]? = some hd := ⟨_, List.getElem?_eq_getElem (by omega)⟩
  refine J.seq rfl ?_
  refine J.region rfl ?_
  refine JO.eff rfl rfl rfl (Eff.box (cs := [_, _, _, _, _, _]) rfl rfl) ?_
  rintro _ _ ⟨b3, rfl, rfl⟩
  refine JO.pur rfl rfl rfl (Pur.assign rfl) ?_
  refine JO.nil ?_
  refine J.seq rfl ?_
  refine J.imp (fun h s => zw_open (A := cA) hbi (cell_get hto) (SubC.out (M := star (List.zipWith cA hs X.cells) :: blk b3 (nmC m) :: blk p (nC ca X.cells.length cc fa X.fly.length fc ha X.hd.length hc sa ss.length sc) :: sl hcE ca cc hs :: sl nmE fa fc X.fly :: sl hnE ha hc X.hd :: sl ctE sa sc ss :: L) h s)) ?_
  refine J.quiet rfl Try.mixed (by kernel_rfl) ?_
  refine JQ.pur rfl rfl rfl (Pur.move rfl) ?_
  refine JQ.pur rfl rfl rfl (Pur.nilCheck rfl) ?_
  refine JQ.pur rfl rfl rfl (Pur.fieldAddr rfl) ?_
  refine JQ.pur rfl rfl rfl (Pur.load rfl (CellIn.blk rfl)) ?_
  refine JQ.pur rfl rfl rfl (Pur.fieldAddr rfl) ?_
  refine JQ.pur rfl rfl rfl (Pur.load rfl (CellIn.blk rfl)) ?_
  refine JQ.setv (u' := .int .i64 (m.to : Int)) 12 rfl rfl ?_
  refine JQ.pur rfl rfl rfl (Pur.idx rfl rfl rfl (by first | rfl | (simp; done) | omega) rfl (by omega)) ?_
  refine JQ.pur rfl rfl rfl (Pur.load rfl (CellIn.el0 rfl hbi rfl)) ?_
  refine JQ.setv (u' := .slice hd.1 1 hd.2) 14 rfl rfl ?_
  refine JQ.pur rfl rfl rfl (Pur.fieldAddr rfl) ?_
  refine JQ.pur rfl rfl rfl (Pur.load rfl (CellIn.blk rfl)) ?_
  refine JQ.pur rfl rfl rfl (Pur.idx rfl rfl rfl (by first | rfl | (simp; done) | omega) (show (m.cl : Int) = ((0 : Nat) : Int) by omega) (by simp)) ?_
  refine JQ.pur rfl rfl rfl (Pur.assign rfl) ?_
  refine JQ.nil ?_
  refine J.seq rfl ?_
  refine J.region rfl ?_
  refine JO.pur rfl rfl rfl (Pur.move rfl) ?_
  refine JO.pur rfl rfl rfl (Pur.nilCheck rfl) ?_
  refine JO.pur rfl rfl rfl (Pur.load rfl (CellIn.el0 rfl (show [cellN X m.to][0]? = some (cellN X m.to) from rfl) rfl)) ?_
  refine JO.setv (u' := .int .i64 (cellN X m.to)) 20 rfl rfl ?_
  refine JO.pur rfl rfl rfl (Pur.assign rfl) ?_
  refine JO.nil ?_
  refine J.seq rfl ?_
  refine J.seq rfl ?_
  refine J.region rfl ?_
  refine JO.pur rfl rfl rfl (Pur.fieldAddr rfl) ?_
  refine JO.pur rfl rfl rfl (Pur.load rfl (CellIn.blk rfl)) ?_
  refine JO.nil ?_
  refine J.block rfl ?_
  refine J.seq rfl ?_
  refine J.region rfl ?_
  refine JO.pur rfl rfl rfl (Pur.eqlI rfl rfl) ?_
  refine JO.pur rfl rfl rfl (Pur.assign rfl) ?_
  refine JO.nil ?_
  refine J.splitB 23 rfl (fun h23 => ?_) (fun h23 => ?_)
  · try simp only [decide_eq_true_eq, decide_eq_false_iff_not, Bool.not_eq_true', Bool.not_eq_false', Bool.and_eq_true, Bool.or_eq_true, Bool.and_eq_false_iff, Bool.or_eq_false_iff, Option.isNone_some, Option.isSome_some, Option.isNone_none, Option.isSome_none, Int.not_lt, Int.not_le, beq_iff_eq, beq_eq_false_iff_ne, bne_iff_ne, ne_eq, Bool.not_not, Decidable.not_not] at h23
    have hd1 : doV (cellN X m.to) m = m.v ∧ doA (cellN X m.to) m = 0 := ⟨if_pos (by omega), if_pos (by omega)⟩
    refine J.condT rfl rfl ?_
    refine J.seq rfl ?_
    refine J.region rfl ?_
    refine JO.pur rfl rfl rfl (Pur.move rfl) ?_
    refine JO.pur rfl rfl rfl (Pur.fieldAddr rfl) ?_
    refine JO.pur rfl rfl rfl (Pur.load rfl (CellIn.blk rfl)) ?_
    refine JO.pur rfl rfl rfl (Pur.nilCheck rfl) ?_
    refine JO.effN rfl rfl (Eff.storeS0 (z' := m.v) rfl rfl rfl rfl (show [cellN X m.to][0]? = some (cellN X m.to) from rfl) .head) ?_
    rintro _ _ ⟨rfl, rfl⟩
    refine JO.nil ?_
    refine J.seq rfl ?_
    refine J.region rfl ?_
    refine JO.pur rfl rfl rfl (Pur.assign rfl) ?_
    refine JO.nil ?_
    refine J.ret rfl rfl ?_
    refine ⟨_, _, ⟨rfl, rfl⟩, by rw [hd1.2]; rfl, fun h s => ?_⟩
    have s1 : Sat h (cA hd (doV (cellN X m.to) m) :: zwBut cA m.to hs X.cells :: blk b3 (nmC m) :: blk p (nC ca X.cells.length cc fa X.fly.length fc ha X.hd.length hc sa ss.length sc) :: sl hcE ca cc hs :: sl nmE fa fc X.fly :: sl hnE ha hc X.hd :: sl ctE sa sc ss :: L) := by rw [hd1.1]; exact s
    have s2 := zw_put (A := cA) (r' := hd) (c' := doV (cellN X m.to) m) hbi (cell_get hto) (SubC.out (M := cA hd (doV (cellN X m.to) m) :: zwBut cA m.to hs X.cells :: blk p (nC ca X.cells.length cc fa X.fly.length fc ha X.hd.length hc sa ss.length sc) :: sl hcE ca cc hs :: sl nmE fa fc X.fly :: sl hnE ha hc X.hd :: sl ctE sa sc ss :: L) h s1)
    rw [set_same hbi] at s2
    have e : X.cells.length = (X.cells.set m.to (doV (cellN X m.to) m)).length := by simp
    rw [e] at s2
    refine NB_mk (X := doN X m) (ca := ca) (cc := cc) (fa := fa) (fc := fc) (ha := ha) (hc := hc) (sa := sa) (sc := sc) (hs := hs) (ss := ss) (hb1.trans e) hb2 ?_
    show Sat h (blk p (nC ca (X.cells.set m.to (doV (cellN X m.to) m)).length cc fa X.fly.length fc ha X.hd.length hc sa ss.length sc) :: sl hcE ca cc hs :: star (List.zipWith cA hs (X.cells.set m.to (doV (cellN X m.to) m))) :: sl nmE fa fc X.fly :: sl hnE ha hc X.hd :: sl ctE sa sc ss :: L)
    exact SubC.out h s2
  · try simp only [decide_eq_true_eq, decide_eq_false_iff_not, Bool.not_eq_true', Bool.not_eq_false', Bool.and_eq_true, Bool.or_eq_true, Bool.and_eq_false_iff, Bool.or_eq_false_iff, Option.isNone_some, Option.isSome_some, Option.isNone_none, Option.isSome_none, Int.not_lt, Int.not_le, beq_iff_eq, beq_eq_false_iff_ne, bne_iff_ne, ne_eq, Bool.not_not, Decidable.not_not] at h23
    refine J.condF rfl rfl ?_
    refine J.seq rfl ?_
    refine J.region rfl ?_
    refine JO.pur rfl rfl rfl (Pur.eqlI rfl rfl) ?_
    refine JO.pur rfl rfl rfl (Pur.assign rfl) ?_
    refine JO.nil ?_
    refine J.splitB 29 rfl (fun h29 => ?_) (fun h29 => ?_)
    · try simp only [decide_eq_true_eq, decide_eq_false_iff_not, Bool.not_eq_true', Bool.not_eq_false', Bool.and_eq_true, Bool.or_eq_true, Bool.and_eq_false_iff, Bool.or_eq_false_iff, Option.isNone_some, Option.isSome_some, Option.isNone_none, Option.isSome_none, Int.not_lt, Int.not_le, beq_iff_eq, beq_eq_false_iff_ne, bne_iff_ne, ne_eq, Bool.not_not, Decidable.not_not] at h29
      have hd1 : doV (cellN X m.to) m = IntKind.i64.wrap (cellN X m.to + m.v) ∧ doA (cellN X m.to) m = cellN X m.to := ⟨by unfold doV; rw [if_neg (by omega), if_pos (by omega)]; rfl, if_neg (by omega)⟩
      refine J.condT rfl rfl ?_
      refine J.mask0 (n := 8) [7] rfl Try.mixed rfl (by kernel_rfl) ?_
      refine JM.take 0 (fun _ h => h) rfl (by kernel_rfl) rfl rfl rfl (m' := 1) rfl (Pur.move rfl) ?_
      refine JM.take 1 (fun _ h => h) rfl (by kernel_rfl) rfl rfl rfl (m' := 3) rfl (Pur.nilCheck rfl) ?_
      refine JM.take 2 (fun _ h => h) rfl (by kernel_rfl) rfl rfl rfl (m' := 7) rfl (Pur.load rfl (CellIn.el0 rfl (show [cellN X m.to][0]? = some (cellN X m.to) from rfl) rfl)) ?_
      refine JM.setv (u' := .int .i64 (cellN X m.to)) 33 rfl rfl ?_
      refine JM.take 3 (fun _ h => h) rfl (by kernel_rfl) rfl rfl rfl (m' := 15) rfl (Pur.fieldAddr rfl) ?_
      refine JM.take 4 (fun _ h => h) rfl (by kernel_rfl) rfl rfl rfl (m' := 31) rfl (Pur.load rfl (CellIn.blk rfl)) ?_
      refine JM.setv (u' := .int .i64 m.v) 35 rfl rfl ?_
      refine JM.take 5 (fun _ h => h) rfl (by kernel_rfl) rfl rfl rfl (m' := 63) rfl (Pur.addW rfl rfl) ?_
      refine JM.take 6 (fun _ h => h) rfl (by kernel_rfl) rfl rfl rfl (m' := 127) rfl (Pur.nilCheck rfl) ?_
      refine JM.one (i := 7) (by kernel_rfl) ?_
      refine JMi.effN rfl rfl rfl (m' := 255) rfl (Eff.storeS0 (z' := IntKind.i64.wrap (cellN X m.to + m.v)) rfl rfl rfl rfl (show [cellN X m.to][0]? = some (cellN X m.to) from rfl) .head) ?_
      rintro _ _ ⟨rfl, rfl⟩
      refine ⟨.inl (by simp), ?_⟩
      refine JM.done rfl ?_
      refine J.inBlock ?_
      refine J.seq rfl ?_
      refine J.region rfl ?_
      refine JO.pur rfl rfl rfl (Pur.move rfl) ?_
      refine JO.pur rfl rfl rfl (Pur.assign rfl) ?_
      refine JO.nil ?_
      refine J.ret rfl rfl ?_
      refine ⟨_, _, ⟨rfl, rfl⟩, by rw [hd1.2]; rfl, fun h s => ?_⟩
      have s1 : Sat h (cA hd (doV (cellN X m.to) m) :: zwBut cA m.to hs X.cells :: blk b3 (nmC m) :: blk p (nC ca X.cells.length cc fa X.fly.length fc ha X.hd.length hc sa ss.length sc) :: sl hcE ca cc hs :: sl nmE fa fc X.fly :: sl hnE ha hc X.hd :: sl ctE sa sc ss :: L) := by rw [hd1.1]; exact s
      have s2 := zw_put (A := cA) (r' := hd) (c' := doV (cellN X m.to) m) hbi (cell_get hto) (SubC.out (M := cA hd (doV (cellN X m.to) m) :: zwBut cA m.to hs X.cells :: blk p (nC ca X.cells.length cc fa X.fly.length fc ha X.hd.length hc sa ss.length sc) :: sl hcE ca cc hs :: sl nmE fa fc X.fly :: sl hnE ha hc X.hd :: sl ctE sa sc ss :: L) h s1)
      rw [set_same hbi] at s2
      have e : X.cells.length = (X.cells.set m.to (doV (cellN X m.to) m)).length := by simp
      rw [e] at s2
      refine NB_mk (X := doN X m) (ca := ca) (cc := cc) (fa := fa) (fc := fc) (ha := ha) (hc := hc) (sa := sa) (sc := sc) (hs := hs) (ss := ss) (hb1.trans e) hb2 ?_
      show Sat h (blk p (nC ca (X.cells.set m.to (doV (cellN X m.to) m)).length cc fa X.fly.length fc ha X.hd.length hc sa ss.length sc) :: sl hcE ca cc hs :: star (List.zipWith cA hs (X.cells.set m.to (doV (cellN X m.to) m))) :: sl nmE fa fc X.fly :: sl hnE ha hc X.hd :: sl ctE sa sc ss :: L)
      exact SubC.out h s2
    · try simp only [decide_eq_true_eq, decide_eq_false_iff_not, Bool.not_eq_true', Bool.not_eq_false', Bool.and_eq_true, Bool.or_eq_true, Bool.and_eq_false_iff, Bool.or_eq_false_iff, Option.isNone_some, Option.isSome_some, Option.isNone_none, Option.isSome_none, Int.not_lt, Int.not_le, beq_iff_eq, beq_eq_false_iff_ne, bne_iff_ne, ne_eq, Bool.not_not, Decidable.not_not] at h29
      have hd1 : doV (cellN X m.to) m = cellN X m.to ∧ doA (cellN X m.to) m = cellN X m.to := ⟨by unfold doV; rw [if_neg (by omega), if_neg (by omega)], if_neg (by omega)⟩
      refine J.condF rfl rfl ?_
      refine J.skip rfl ?_
      refine J.inBlock ?_
      refine J.seq rfl ?_
      refine J.region rfl ?_
      refine JO.pur rfl rfl rfl (Pur.move rfl) ?_
      refine JO.pur rfl rfl rfl (Pur.assign rfl) ?_
      refine JO.nil ?_
      refine J.ret rfl rfl ?_
      refine ⟨_, _, ⟨rfl, rfl⟩, by rw [hd1.2]; rfl, fun h s => ?_⟩
      have s1 : Sat h (cA hd (doV (cellN X m.to) m) :: zwBut cA m.to hs X.cells :: blk b3 (nmC m) :: blk p (nC ca X.cells.length cc fa X.fly.length fc ha X.hd.length hc sa ss.length sc) :: sl hcE ca cc hs :: sl nmE fa fc X.fly :: sl hnE ha hc X.hd :: sl ctE sa sc ss :: L) := by rw [hd1.1]; exact s
      have s2 := zw_put (A := cA) (r' := hd) (c' := doV (cellN X m.to) m) hbi (cell_get hto) (SubC.out (M := cA hd (doV (cellN X m.to) m) :: zwBut cA m.to hs X.cells :: blk p (nC ca X.cells.length cc fa X.fly.length fc ha X.hd.length hc sa ss.length sc) :: sl hcE ca cc hs :: sl nmE fa fc X.fly :: sl hnE ha hc X.hd :: sl ctE sa sc ss :: L) h s1)
      rw [set_same hbi] at s2
      have e : X.cells.length = (X.cells.set m.to (doV (cellN X m.to) m)).length := by simp
      rw [e] at s2
      refine NB_mk (X := doN X m) (ca := ca) (cc := cc) (fa := fa) (fc := fc) (ha := ha) (hc := hc) (sa := sa) (sc := sc) (hs := hs) (ss := ss) (hb1.trans e) hb2 ?_
      show Sat h (blk p (nC ca (X.cells.set m.to (doV (cellN X m.to) m)).length cc fa X.fly.length fc ha X.hd.length hc sa ss.length sc) :: sl hcE ca cc hs :: star (List.zipWith cA hs (X.cells.set m.to (doV (cellN X m.to) m))) :: sl nmE fa fc X.fly :: sl hnE ha hc X.hd :: sl ctE sa sc ss :: L)
      exact SubC.out h s2

end Go.Proofs.Ytoikjjpleonllaa
