/-
  A part of the proof of the claim that this folder bears.
-/
import Derived.Test.YtoikjjpleonllaaPAK
import Derived.Test.YtoikjjpleonllaaPAJ
import Derived.Test.YtoikjjpleonllaaPAI
/- The text N3. -/
set_option linter.unusedVariables false
set_option linter.unusedSimpArgs false
set_option maxRecDepth 10000
namespace Go.Proofs.Ytoikjjpleonllaa
open Go Go.KK Gr Nt

theorem nflying_ok {L : List Asn} {p : Nat} {X : Ns} (hn : 1 ≤ X.cells.length) (hf : X.fly.length ≤ 100000) :
    CallS Try.prog 36 [.pointer (some ⟨p, 0, none⟩)].toArray (NB p X :: L) (fun v M => ∃ a' c', v = .slice a' X.fly.length c' ∧ M = sl nmE a' c' X.fly :: NB p X :: L) := by
  refine CallS.ent ?_
  refine CallS.enter Try.func36 rfl rfl rfl rfl rfl ?_
  refine NB_open fun ca cc fa fc ha hc sa sc hs ss hb1 hb2 => ?_
  refine J.fact (fun h hs => SlH.nil (a := fa) (E := nmE) hs) fun hfn => ?_
  refine J.seq rfl ?_
  refine J.region rfl ?_
  refine JO.pur rfl rfl rfl (Pur.assign rfl) ?_
  refine JO.nil ?_
  refine J.seq rfl ?_
  refine J.seq rfl ?_
  refine J.region rfl ?_
  refine JO.pur rfl rfl rfl (Pur.move rfl) ?_
  refine JO.effR rfl rfl rfl (Eff.call rfl (nnone_ok)) ?_
  refine JO.setv (u' := .bool false) 4 rfl (congrArg Value.bool (decide_eq_false (by omega))) ?_
  refine JO.nil ?_
  refine J.condF rfl rfl ?_
  refine J.skip rfl ?_
  refine J.seq rfl ?_
  refine J.region rfl ?_
  refine JO.pur rfl rfl rfl (Pur.move rfl) ?_
  refine JO.pur rfl rfl rfl (Pur.nilCheck rfl) ?_
  refine JO.pur rfl rfl rfl (Pur.fieldAddr rfl) ?_
  refine JO.pur rfl rfl rfl (Pur.load rfl (CellIn.blk rfl)) ?_
  refine JO.eff rfl rfl rfl (Eff.call rfl (cloneN (xs := X.fly) rfl (by omega) (fun e => by obtain ⟨e1, e2⟩ := hfn e; exact ⟨by rw [e1]; rfl, e2⟩))) ?_
  rintro _ _ ⟨a9, c9, ⟨rfl, -⟩, rfl⟩
  refine JO.pur rfl rfl rfl (Pur.assign rfl) ?_
  refine JO.nil ?_
  refine J.ret rfl rfl ?_
  refine ⟨_, _, ⟨a9, c9, rfl, rfl⟩, rfl, fun h s => ?_⟩
  exact (SubC.out (L := NB p X :: sl nmE a9 c9 X.fly :: L) h (NB_mk (X := X) (ca := ca) (cc := cc) (fa := fa) (fc := fc) (ha := ha) (hc := hc) (sa := sa) (sc := sc) (hs := hs) (ss := ss) hb1 hb2 (SubC.out (M := blk p (nC ca X.cells.length cc fa X.fly.length fc ha X.hd.length hc sa ss.length sc) :: sl hcE ca cc hs :: star (List.zipWith cA hs X.cells) :: sl nmE fa fc X.fly :: sl hnE ha hc X.hd :: sl ctE sa sc ss :: sl nmE a9 c9 X.fly :: L) h s)))

theorem nfind_ok {L : List Asn} {p : Nat} {X : Ns} {k : Nat} (hn : 1 ≤ X.cells.length) (hk1 : 1 ≤ k) (hk2 : k ≤ X.hd.length) (hk3 : X.hd.length ≤ 100000) :
    CallS Try.prog 88 [.pointer (some ⟨p, 0, none⟩), .int .i64 (k : Int)].toArray (NB p X :: L) (fun v M => v = .tuple #[.agg #[.int .i64 ((hN X k).fr : Int), .int .i64 (hN X k).v, .bool (hN X k).dn], .int .i64 0] ∧ M = NB p X :: L) := by
  have hY := hN_get hk1 hk2
  refine CallS.ent ?_
  refine CallS.enter Try.func88 rfl rfl rfl rfl rfl ?_
  refine NB_open fun ca cc fa fc ha hc sa sc hs ss hb1 hb2 => ?_
  refine J.seq rfl ?_
  refine J.region rfl ?_
  refine JO.eff rfl rfl rfl (Eff.alloc (cs := [_, _, _]) rfl) ?_
  rintro _ _ ⟨b4, rfl, rfl⟩
  refine JO.pur rfl rfl rfl (Pur.assign rfl) ?_
  refine JO.nil ?_
  refine J.seq rfl ?_
  refine J.block rfl ?_
  refine J.seq rfl ?_
  refine J.region rfl ?_
  refine JO.pur rfl rfl rfl (Pur.move rfl) ?_
  refine JO.effR rfl rfl rfl (Eff.call rfl (nnone_ok)) ?_
  refine JO.pur rfl rfl rfl (Pur.assign rfl) ?_
  refine JO.nil ?_
  refine J.setv (u' := .bool false) 6 rfl (congrArg Value.bool (decide_eq_false (by omega))) ?_
  refine J.condF rfl rfl ?_
  refine J.seq rfl ?_
  refine J.region rfl ?_
  refine JO.pur rfl rfl rfl (Pur.move rfl) ?_
  refine JO.pur rfl rfl rfl (Pur.lss rfl rfl) ?_
  refine JO.pur rfl rfl rfl (Pur.move rfl) ?_
  refine JO.setv (u' := .bool false) 13 rfl (congrArg Value.bool (decide_eq_false (by omega))) ?_
  refine JO.pur rfl rfl rfl (Pur.move rfl) ?_
  refine JO.pur rfl rfl rfl (Pur.move rfl) ?_
  refine JO.pur rfl rfl rfl (Pur.nilCheck rfl) ?_
  refine JO.pur rfl rfl rfl (Pur.fieldAddr rfl) ?_
  refine JO.pur rfl rfl rfl (Pur.load rfl (CellIn.blk rfl)) ?_
  refine JO.pur rfl rfl rfl (Pur.len rfl) ?_
  refine JO.pur rfl rfl rfl (Pur.gtr rfl rfl) ?_
  refine JO.pur rfl rfl rfl (Pur.pickF rfl rfl) ?_
  refine JO.pur rfl rfl rfl (Pur.assign rfl) ?_
  refine JO.nil ?_
  refine J.setv (u' := .bool false) 10 rfl (congrArg Value.bool (decide_eq_false (by omega))) ?_
  refine J.condF rfl rfl ?_
  refine J.skip rfl ?_
  refine J.inBlock ?_
  refine J.seq rfl ?_
  refine J.region rfl ?_
  refine JO.pur rfl rfl rfl (Pur.move rfl) ?_
  refine JO.pur rfl rfl rfl (Pur.nilCheck rfl) ?_
  refine JO.pur rfl rfl rfl (Pur.fieldAddr rfl) ?_
  refine JO.pur rfl rfl rfl (Pur.load rfl (CellIn.blk rfl)) ?_
  refine JO.pur rfl rfl rfl (Pur.move rfl) ?_
  refine JO.pur rfl rfl rfl (Pur.sub rfl rfl (wr64 (by omega))) ?_
  refine JO.pur rfl rfl rfl (Pur.idx rfl rfl rfl (by first | rfl | (simp; done) | omega) (show (k : Int) - 1 = ((k - 1 : Nat) : Int) by omega) (by omega)) ?_
  refine JO.pur rfl rfl rfl (Pur.loadA rfl rfl rfl (CellsIn.el rfl hY)) ?_
  refine JO.setv (u' := .agg #[.int .i64 ((hN X k).fr : Int), .int .i64 (hN X k).v, .bool (hN X k).dn]) 30 rfl rfl ?_
  refine JO.effN rfl rfl (Eff.storeBA (cs' := [_, _, _]) rfl rfl (by rfl) (by rfl) (by rfl)) ?_
  rintro _ _ ⟨rfl, rfl⟩
  refine JO.pur rfl rfl rfl (Pur.assign rfl) ?_
  refine JO.nil ?_
  refine J.retC rfl (.cell rfl (ld_agg rfl CellsIn.blk) (.tmp rfl .nil)) ?_
  refine ⟨_, _, ⟨rfl, rfl⟩, rfl, (fun h s => NB_mk (X := X) (ca := ca) (cc := cc) (fa := fa) (fc := fc) (ha := ha) (hc := hc) (sa := sa) (sc := sc) (hs := hs) (ss := ss) hb1 hb2 (SubC.out (M := blk p (nC ca X.cells.length cc fa X.fly.length fc ha X.hd.length hc sa ss.length sc) :: sl hcE ca cc hs :: star (List.zipWith cA hs X.cells) :: sl nmE fa fc X.fly :: sl hnE ha hc X.hd :: sl ctE sa sc ss :: L) h s))⟩

theorem nDone_ok {L : List Asn} {p : Nat} {X : Ns} {k : Nat} (hn : 1 ≤ X.cells.length) (hk1 : 1 ≤ k) (hk2 : k ≤ X.hd.length) (hk3 : X.hd.length ≤ 100000) :
    CallS Try.prog 65 [.pointer (some ⟨p, 0, none⟩), .int .i64 (k : Int)].toArray (NB p X :: L) (fun v M => v = .tuple #[.bool (hN X k).dn, .int .i64 0] ∧ M = NB p X :: L) := by
  refine CallS.ent ?_
  refine CallS.enter Try.func65 rfl rfl rfl rfl rfl ?_
  refine J.seq rfl ?_
  refine J.region rfl ?_
  refine JO.pur rfl rfl rfl (Pur.assign rfl) ?_
  refine JO.pur rfl rfl rfl (Pur.assign rfl) ?_
  refine JO.nil ?_
  refine J.seq rfl ?_
  refine J.region rfl ?_
  refine JO.pur rfl rfl rfl (Pur.move rfl) ?_
  refine JO.pur rfl rfl rfl (Pur.move rfl) ?_
  refine JO.eff rfl rfl rfl (Eff.call rfl (nfind_ok (k := k) hn hk1 hk2 hk3)) ?_
  rintro _ _ ⟨rfl, rfl⟩
  refine JO.pur rfl rfl rfl (Pur.move rfl) ?_
  refine JO.pur rfl rfl rfl (Pur.extract rfl rfl) ?_
  refine JO.pur rfl rfl rfl (Pur.extract rfl rfl) ?_
  refine JO.eff rfl rfl rfl (Eff.alloc (cs := [_, _, _]) rfl) ?_
  rintro _ _ ⟨b6, rfl, rfl⟩
  refine JO.effN rfl rfl (Eff.storeBA (cs' := [_, _, _]) rfl rfl (by rfl) (by rfl) (by rfl)) ?_
  rintro _ _ ⟨rfl, rfl⟩
  refine JO.pur rfl rfl rfl (Pur.assign rfl) ?_
  refine JO.nil ?_
  refine J.seq rfl ?_
  refine J.region rfl ?_
  refine JO.pur rfl rfl rfl (Pur.fieldAddr rfl) ?_
  refine JO.pur rfl rfl rfl (Pur.load rfl (CellIn.blk rfl)) ?_
  refine JO.pur rfl rfl rfl (Pur.move rfl) ?_
  refine JO.pur rfl rfl rfl (Pur.assign rfl) ?_
  refine JO.pur rfl rfl rfl (Pur.assign rfl) ?_
  refine JO.nil ?_
  refine J.ret rfl rfl ?_
  refine ⟨_, _, ⟨rfl, rfl⟩, rfl, fun h s => SubC.out h s⟩

theorem nNew_ok {L : List Asn} {n : Nat} (h1 : 1 ≤ n) (h8 : n ≤ 8) :
    CallS Try.prog 34 [.int .i64 (n : Int), .int .i64 1].toArray L (fun v M => ∃ p, v = .tuple #[.pointer (some ⟨p, 0, none⟩), .int .i64 0] ∧ M = NB p ⟨List.replicate n 0, [], [], 0⟩ :: L) := by
  refine CallS.ent ?_
  refine CallS.enter Try.func34 rfl rfl rfl rfl rfl ?_
  refine J.seq rfl ?_
  refine J.region rfl ?_
  refine JO.pur rfl rfl rfl (Pur.assign rfl) ?_
  refine JO.pur rfl rfl rfl (Pur.assign rfl) ?_
  refine JO.nil ?_
  refine J.seq rfl ?_
  refine J.seq rfl ?_
  refine J.region rfl ?_
  refine JO.pur rfl rfl rfl (Pur.move rfl) ?_
  refine JO.pur rfl rfl rfl (Pur.lss rfl rfl) ?_
  refine JO.pur rfl rfl rfl (Pur.move rfl) ?_
  refine JO.setv (u' := .bool false) 9 rfl (congrArg Value.bool (decide_eq_false (by omega))) ?_
  refine JO.pur rfl rfl rfl (Pur.move rfl) ?_
  refine JO.pur rfl rfl rfl (Pur.gtr rfl rfl) ?_
  refine JO.pur rfl rfl rfl (Pur.pickF rfl rfl) ?_
  refine JO.pur rfl rfl rfl (Pur.move rfl) ?_
  refine JO.setv (u' := .bool false) 13 rfl (congrArg Value.bool (decide_eq_false (by omega))) ?_
  refine JO.pur rfl rfl rfl (Pur.move rfl) ?_
  refine JO.pur rfl rfl rfl (Pur.lss rfl rfl) ?_
  refine JO.pur rfl rfl rfl (Pur.pickF rfl rfl) ?_
  refine JO.pur rfl rfl rfl (Pur.move rfl) ?_
  refine JO.setv (u' := .bool false) 17 rfl (congrArg Value.bool (decide_eq_false (by omega))) ?_
  refine JO.pur rfl rfl rfl (Pur.move rfl) ?_
  refine JO.pur rfl rfl rfl (Pur.gtr rfl rfl) ?_
  refine JO.pur rfl rfl rfl (Pur.pickF rfl rfl) ?_
  refine JO.nil ?_
  refine J.setv (u' := .bool false) 20 rfl (congrArg Value.bool (decide_eq_false (by omega))) ?_
  refine J.condF rfl rfl ?_
  refine J.skip rfl ?_
  refine J.seq rfl ?_
  refine J.region rfl ?_
  refine JO.pur rfl rfl rfl (Pur.build (cs := [_, _, _, _]) rfl rfl) ?_
  refine JO.eff rfl rfl rfl (Eff.box (cs := [_, _, _, _]) rfl rfl) ?_
  rintro _ _ ⟨b22, rfl, rfl⟩
  refine JO.pur rfl rfl rfl (Pur.assign rfl) ?_
  refine JO.nil ?_
  refine J.seq rfl ?_
  refine J.seq rfl ?_
  refine J.region rfl ?_
  refine JO.pur rfl rfl rfl (Pur.move rfl) ?_
  refine JO.pur rfl rfl rfl (Pur.move rfl) ?_
  refine JO.nil ?_
  refine J.block rfl ?_
  refine J.loopF (ι := Nat × Option Addr × Nat × List (Option Addr × Nat)) (fun q => q.1 ≤ n ∧ q.2.2.2.length = q.1) (fun q => [(24, .int .i64 (q.1 : Int))]) [(1, _), (6, _), (23, _)] (fun q => blk b22 (nC q.2.1 q.1 q.2.2.1 none 0 0 none 0 0 none 0 0) :: sl hcE q.2.1 q.2.2.1 q.2.2.2 :: star (List.zipWith cA q.2.2.2 (List.replicate q.1 (0 : Int))) :: L) (fun q => n - q.1) (0, none, 0, []) rfl (.cons rfl rfl (.cons rfl rfl (.cons rfl rfl .nil))) (.cons rfl rfl .nil) (fun h s => by have s2 := sl_nil_new (E := hcE) (zw_nil (A := cA) s); have s3 : Sat h (blk b22 (nC none 0 0 none 0 0 none 0 0 none 0 0) :: sl hcE none 0 [] :: star (List.zipWith cA [] []) :: L) := SubC.out (L := sl hcE none 0 [] :: star (List.zipWith cA [] []) :: _) h s2; exact s3) ⟨Nat.zero_le _, rfl⟩ ?_
  rintro ⟨k, ca, cc, hs⟩ ⟨hk, hl⟩ ihk
  try dsimp only
  dsimp only at hk hl
  refine J.seq rfl ?_
  refine J.region rfl ?_
  refine JO.pur rfl rfl rfl (Pur.lss rfl rfl) ?_
  refine JO.nil ?_
  refine J.seq rfl ?_
  refine J.splitB 25 rfl (fun h25 => ?_) (fun h25 => ?_)
  · try simp only [decide_eq_true_eq, decide_eq_false_iff_not, Bool.not_eq_true', Bool.not_eq_false', Bool.and_eq_true, Bool.or_eq_true, Bool.and_eq_false_iff, Bool.or_eq_false_iff, Option.isNone_some, Option.isSome_some, Option.isNone_none, Option.isSome_none, Int.not_lt, Int.not_le, beq_iff_eq, beq_eq_false_iff_ne, bne_iff_ne, ne_eq, Bool.not_not, Decidable.not_not] at h25
    have hkn : k < n := by omega
    refine J.condT rfl rfl ?_
    refine J.skip rfl ?_
    refine J.seq rfl ?_
    refine J.block rfl ?_
    refine J.mask0 (n := 12) [8, 11] rfl Try.mixed rfl (by kernel_rfl) ?_
    refine JM.takeF 0 (.inr (fun _ h => h)) rfl (by kernel_rfl) rfl rfl rfl (m' := 1) rfl (Pur.move rfl) ?_
    refine JM.take 1 (fun _ h => h) rfl (by kernel_rfl) rfl rfl rfl (m' := 3) rfl (Pur.move rfl) ?_
    refine JM.take 2 (fun _ h => h) rfl (by kernel_rfl) rfl rfl rfl (m' := 7) rfl (Pur.nilCheck rfl) ?_
    refine JM.take 3 (fun _ h => h) rfl (by kernel_rfl) rfl rfl rfl (m' := 15) rfl (Pur.fieldAddr rfl) ?_
    refine JM.take 4 (fun _ h => h) rfl (by kernel_rfl) rfl rfl rfl (m' := 31) rfl (Pur.load rfl (CellIn.blk rfl)) ?_
    refine JM.take 5 (fun _ h => h) rfl (by kernel_rfl) rfl rfl rfl (m' := 63) rfl (Pur.move rfl) ?_
    refine JM.one (i := 6) (by kernel_rfl) ?_
    refine JMi.eff rfl rfl rfl rfl (m' := 127) rfl (Eff.make intE 0 rfl rfl rfl rfl rfl (by decide) (by decide) (by decide)) ?_
    rintro _ _ ⟨b32, rfl, rfl⟩
    refine ⟨.inr (fun _ h => h.tail), ?_⟩
    refine JM.one (i := 7) (by kernel_rfl) ?_
    refine JMi.eff rfl rfl rfl rfl (m' := 255) rfl (Eff.buildSlice hcE [((some ⟨b32, 0, none⟩, 1) : Option Addr × Nat)] rfl rfl rfl rfl rfl rfl rfl) ?_
    rintro _ _ ⟨b33, rfl, -, rfl⟩
    refine ⟨.inr (fun _ h => h.tail.tail), ?_⟩
    refine JM.one (i := 8) (by kernel_rfl) ?_
    refine JMi.eff rfl rfl rfl rfl (m' := 511) rfl (Eff.append rfl rfl rfl rfl (by first | rfl | omega | (simp; done) | (simp; omega)) (by first | rfl | omega | (simp; done) | (simp; omega)) (by decide) (by rw [hl]; simp; omega) (by rw [hl]; simp; omega) (fun h => by cases h)) ?_
    rintro _ _ ⟨a34, c34, rfl, rfl⟩
    refine ⟨.inl (by simp), ?_⟩
    refine JM.setv (u' := .slice a34 (k + 1) c34) 34 rfl (by rw [hl]; rfl) ?_
    refine JM.takeF 9 (.inl (by kernel_rfl)) rfl (by kernel_rfl) rfl rfl rfl (m' := 1023) rfl (Pur.nilCheck rfl) ?_
    refine JM.takeF 10 (.inl (by kernel_rfl)) rfl (by kernel_rfl) rfl rfl rfl (m' := 2047) rfl (Pur.fieldAddr rfl) ?_
    refine JM.one (i := 11) (by kernel_rfl) ?_
    refine JMi.effN rfl rfl rfl (m' := 4095) rfl (Eff.storeB rfl rfl rfl .head) ?_
    rintro _ _ ⟨rfl, rfl⟩
    refine ⟨.inl (by simp), ?_⟩
    refine JM.done rfl ?_
    refine J.inBlock ?_
    refine J.region rfl ?_
    refine JO.pur rfl rfl rfl (Pur.add rfl rfl (wr64 (by omega))) ?_
    refine JO.pur rfl rfl rfl (Pur.move rfl) ?_
    refine JO.nil ?_
    exact J.weaken (.cons rfl (congrArg (Value.int .i64) (by first | rfl | (dsimp only; omega))) (.cons rfl rfl (.cons rfl rfl (.cons rfl rfl .nil)))) (fun h s => by dsimp only; rw [show List.replicate 1 (0 : Int) = [0] from rfl] at s; have e : hs.length + 1 = (hs ++ [((some ⟨b32, 0, none⟩, 1) : Option Addr × Nat)]).length := (by simp); have s1 : Sat h (cA (some ⟨b32, 0, none⟩, 1) 0 :: star (List.zipWith cA hs (List.replicate k (0 : Int))) :: blk b22 (nC a34 (k + 1) c34 none 0 0 none 0 0 none 0 0) :: sl hcE a34 c34 (hs ++ [(some ⟨b32, 0, none⟩, 1)]) :: L) := SubC.out h s; have s3 := zw_snoc (A := cA) (hl.trans (by simp)) s1; rw [List.replicate_succ']; exact SubC.out h s3) (ihk (k + 1, a34, c34, hs ++ [(some ⟨b32, 0, none⟩, 1)]) ⟨by dsimp only; omega, by dsimp only; simp [hl]⟩ (by dsimp only; omega))
  · try simp only [decide_eq_true_eq, decide_eq_false_iff_not, Bool.not_eq_true', Bool.not_eq_false', Bool.and_eq_true, Bool.or_eq_true, Bool.and_eq_false_iff, Bool.or_eq_false_iff, Option.isNone_some, Option.isSome_some, Option.isNone_none, Option.isSome_none, Int.not_lt, Int.not_le, beq_iff_eq, beq_eq_false_iff_ne, bne_iff_ne, ne_eq, Bool.not_not, Decidable.not_not] at h25
    have hke : k = n := by omega
    subst hke
    refine J.condF rfl rfl ?_
    refine J.exit rfl rfl ?_
    refine J.seq rfl ?_
    refine J.region rfl ?_
    refine JO.pur rfl rfl rfl (Pur.move rfl) ?_
    refine JO.pur rfl rfl rfl (Pur.assign rfl) ?_
    refine JO.pur rfl rfl rfl (Pur.assign rfl) ?_
    refine JO.nil ?_
    refine J.ret rfl rfl ?_
    refine ⟨_, _, ⟨b22, rfl, rfl⟩, rfl, fun h s => ?_⟩
    have s2 := sl_nil_new (E := nmE) (sl_nil_new (E := hnE) (sl_nil_new (E := ctE) s))
    have s3 : Sat h (blk b22 (nC ca (List.replicate k (0 : Int)).length cc none 0 0 none 0 0 none 0 0) :: sl hcE ca cc hs :: star (List.zipWith cA hs (List.replicate k (0 : Int))) :: sl nmE none 0 [] :: sl hnE none 0 [] :: sl ctE none 0 [] :: L) := by rw [List.length_replicate]; exact SubC.out h s2
    exact NB_mk (X := ⟨List.replicate k 0, [], [], 0⟩) (ca := ca) (cc := cc) (fa := none) (fc := 0) (ha := none) (hc := 0) (sa := none) (sc := 0) (hs := hs) (ss := []) (hl.trans (by simp)) (Nat.zero_le _) s3

theorem nDrain_ok {L : List Asn} {p : Nat} {X : Ns} (hn : 1 ≤ X.cells.length) (hf : 0 < X.fly.length) (h4 : (msgN X 0).kd = 4 → 1 ≤ (msgN X 0).h ∧ (msgN X 0).h ≤ X.hd.length) (hto : (msgN X 0).to < X.cells.length) (hcl : (msgN X 0).cl = 0) (hh : X.hd.length ≤ 100000) (hfl : X.fly.length ≤ 100000) (hsb : X.sb ≤ 100000) (he : (dlvNt X 0).fly = []) :
    CallS Try.prog 66 [.pointer (some ⟨p, 0, none⟩)].toArray (NB p X :: L) (fun v M => v = .tuple #[.int .i64 1, .int .i64 0] ∧ M = NB p (dlvNt X 0) :: L) := by
  refine CallS.ent ?_
  refine CallS.enter Try.func66 rfl rfl rfl rfl rfl ?_
  refine NB_open fun ca cc fa fc ha hc sa sc hs ss hb1 hb2 => ?_
  refine J.seq rfl ?_
  refine J.region rfl ?_
  refine JO.pur rfl rfl rfl (Pur.assign rfl) ?_
  refine JO.pur rfl rfl rfl (Pur.assign rfl) ?_
  refine JO.nil ?_
  refine J.seq rfl ?_
  refine J.seq rfl ?_
  refine J.region rfl ?_
  refine JO.pur rfl rfl rfl (Pur.move rfl) ?_
  refine JO.effR rfl rfl rfl (Eff.call rfl (nnone_ok)) ?_
  refine JO.setv (u' := .bool false) 6 rfl (congrArg Value.bool (decide_eq_false (by omega))) ?_
  refine JO.nil ?_
  refine J.condF rfl rfl ?_
  refine J.skip rfl ?_
  refine J.seq rfl ?_
  refine J.region rfl ?_
  refine JO.pur rfl rfl rfl (Pur.assign rfl) ?_
  refine JO.nil ?_
  refine J.seq rfl ?_
  refine J.block rfl ?_
  refine J.loopF (ι := Nat) (fun q => q ≤ 1) (fun q => [(4, .int .i64 (q : Int))]) [(0, _)] (fun q => NB p (if q = 0 then X else dlvNt X 0) :: L) (fun q => 1 - q) 0 rfl (.cons rfl rfl .nil) (.cons rfl rfl .nil) (fun h s => by rw [if_pos rfl]; exact (fun h s => NB_mk (X := X) (ca := ca) (cc := cc) (fa := fa) (fc := fc) (ha := ha) (hc := hc) (sa := sa) (sc := sc) (hs := hs) (ss := ss) hb1 hb2 (SubC.out (M := blk p (nC ca X.cells.length cc fa X.fly.length fc ha X.hd.length hc sa ss.length sc) :: sl hcE ca cc hs :: star (List.zipWith cA hs X.cells) :: sl nmE fa fc X.fly :: sl hnE ha hc X.hd :: sl ctE sa sc ss :: L) h s)) h s) (Nat.zero_le _) ?_
  rintro q hq ihq
  try dsimp only
  obtain ⟨Y, hY⟩ : ∃ Y, Y = (if q = 0 then X else dlvNt X 0) := ⟨_, rfl⟩
  rw [← hY]
  clear hb1 hb2
  refine NB_open fun ca cc fa fc ha hc sa sc hs ss hb1 hb2 => ?_
  refine J.seq rfl ?_
  refine J.seq rfl ?_
  refine J.region rfl ?_
  refine JO.pur rfl rfl rfl (Pur.move rfl) ?_
  refine JO.pur rfl rfl rfl (Pur.nilCheck rfl) ?_
  refine JO.pur rfl rfl rfl (Pur.fieldAddr rfl) ?_
  refine JO.pur rfl rfl rfl (Pur.load rfl (CellIn.blk rfl)) ?_
  refine JO.pur rfl rfl rfl (Pur.len rfl) ?_
  refine JO.pur rfl rfl rfl (Pur.gtr rfl rfl) ?_
  refine JO.nil ?_
  refine J.splitB 12 rfl (fun h12 => ?_) (fun h12 => ?_)
  · try simp only [decide_eq_true_eq, decide_eq_false_iff_not, Bool.not_eq_true', Bool.not_eq_false', Bool.and_eq_true, Bool.or_eq_true, Bool.and_eq_false_iff, Bool.or_eq_false_iff, Option.isNone_some, Option.isSome_some, Option.isNone_none, Option.isSome_none, Int.not_lt, Int.not_le, beq_iff_eq, beq_eq_false_iff_ne, bne_iff_ne, ne_eq, Bool.not_not, Decidable.not_not] at h12
    have hq0 : q = 0 := by
      rcases Nat.lt_or_ge q 1 with h | h
      · omega
      · rw [if_neg (by omega)] at hY; rw [hY, he] at h12; simp at h12
    have hYX : Y = X := by rw [hY, if_pos hq0]
    subst hYX
    refine J.condT rfl rfl ?_
    refine J.skip rfl ?_
    refine J.seq rfl ?_
    refine J.block rfl ?_
    refine J.region rfl ?_
    refine JO.pur rfl rfl rfl (Pur.move rfl) ?_
    refine JO.imp (M := NB p Y :: L) (fun h s => NB_mk (X := Y) (ca := ca) (cc := cc) (fa := fa) (fc := fc) (ha := ha) (hc := hc) (sa := sa) (sc := sc) (hs := hs) (ss := ss) hb1 hb2 (SubC.out (M := blk p (nC ca Y.cells.length cc fa Y.fly.length fc ha Y.hd.length hc sa ss.length sc) :: sl hcE ca cc hs :: star (List.zipWith cA hs Y.cells) :: sl nmE fa fc Y.fly :: sl hnE ha hc Y.hd :: sl ctE sa sc ss :: L) h s)) ?_
    refine JO.eff rfl rfl rfl (Eff.call rfl (ndeliver_ok (X := Y) (k := 0) hn hf h4 hto hcl hh hfl hsb)) ?_
    rintro _ _ ⟨rfl, rfl⟩
    refine JO.nil ?_
    refine J.inBlock ?_
    refine J.region rfl ?_
    refine JO.pur rfl rfl rfl (Pur.move rfl) ?_
    refine JO.pur rfl rfl rfl (Pur.add rfl rfl (wr64 (by omega))) ?_
    refine JO.pur rfl rfl rfl (Pur.assign rfl) ?_
    refine JO.nil ?_
    exact J.weaken (.cons rfl (congrArg (Value.int .i64) (by first | rfl | (dsimp only; omega))) (.cons rfl rfl .nil)) (fun h s => by rw [if_neg (by omega)]; exact SubC.out h s) (ihq (q + 1) (by omega) (by omega))
  · try simp only [decide_eq_true_eq, decide_eq_false_iff_not, Bool.not_eq_true', Bool.not_eq_false', Bool.and_eq_true, Bool.or_eq_true, Bool.and_eq_false_iff, Bool.or_eq_false_iff, Option.isNone_some, Option.isSome_some, Option.isNone_none, Option.isSome_none, Int.not_lt, Int.not_le, beq_iff_eq, beq_eq_false_iff_ne, bne_iff_ne, ne_eq, Bool.not_not, Decidable.not_not] at h12
    have hq1 : q = 1 := by
      rcases Nat.lt_or_ge q 1 with h | h
      · exfalso; rw [if_pos (by omega)] at hY; rw [hY] at h12; omega
      · omega
    have hYX : Y = dlvNt X 0 := by rw [hY, if_neg (by omega)]
    refine J.condF rfl rfl ?_
    refine J.exit rfl rfl ?_
    refine J.seq rfl ?_
    refine J.region rfl ?_
    refine JO.pur rfl rfl rfl (Pur.move rfl) ?_
    refine JO.pur rfl rfl rfl (Pur.assign rfl) ?_
    refine JO.pur rfl rfl rfl (Pur.assign rfl) ?_
    refine JO.nil ?_
    refine J.ret rfl rfl ?_
    refine ⟨_, _, ⟨rfl, rfl⟩, by rw [hq1]; rfl, fun h s => ?_⟩
    rw [← hYX]
    exact (fun h s => NB_mk (X := Y) (ca := ca) (cc := cc) (fa := fa) (fc := fc) (ha := ha) (hc := hc) (sa := sa) (sc := sc) (hs := hs) (ss := ss) hb1 hb2 (SubC.out (M := blk p (nC ca Y.cells.length cc fa Y.fly.length fc ha Y.hd.length hc sa ss.length sc) :: sl hcE ca cc hs :: star (List.zipWith cA hs Y.cells) :: sl nmE fa fc Y.fly :: sl hnE ha hc Y.hd :: sl ctE sa sc ss :: L) h s)) h s

def aX0 : Ns := ⟨[0, 0], [], [], 0⟩
def aX1 : Ns := ⟨[0, 0], [⟨0, 1, 1, 0, 5, 1⟩], [⟨0, 0, false⟩], 1⟩
def aX2 : Ns := ⟨[0, 5], [⟨1, 0, 4, 0, 0, 1⟩], [⟨0, 0, false⟩], 2⟩
def aX3 : Ns := ⟨[0, 5], [], [⟨0, 0, true⟩], 2⟩
theorem a01 : reqN aX0 ⟨0, 1, 1, 0, 5, 0⟩ = aX1 := rfl
theorem a12 : dlvNt aX1 0 = aX2 := rfl
theorem a23 : dlvNt aX2 0 = aX3 := rfl
theorem nawake_ok {L : List Asn} :
    CallS Try.prog 33 [].toArray L (fun v M => v = .bool true ∧ M = L) := by
  refine CallS.ent ?_
  refine CallS.enter Try.func33 rfl rfl rfl rfl rfl ?_
  refine J.seq rfl ?_
  refine J.region rfl ?_
  refine JO.pur rfl rfl rfl (Pur.assign rfl) ?_
  refine JO.nil ?_
  refine J.seq rfl ?_
  refine J.region rfl ?_
  refine JO.eff rfl rfl rfl (Eff.call rfl (nNew_ok (n := 2) (by decide) (by decide))) ?_
  rintro _ _ ⟨p, rfl, rfl⟩
  refine JO.pur rfl rfl rfl (Pur.move rfl) ?_
  refine JO.pur rfl rfl rfl (Pur.extract rfl rfl) ?_
  refine JO.pur rfl rfl rfl (Pur.extract rfl rfl) ?_
  refine JO.pur rfl rfl rfl (Pur.assign rfl) ?_
  refine JO.pur rfl rfl rfl (Pur.assign rfl) ?_
  refine JO.nil ?_
  refine J.seq rfl ?_
  refine J.seq rfl ?_
  refine J.region rfl ?_
  refine JO.pur rfl rfl rfl (Pur.move rfl) ?_
  refine JO.pur rfl rfl rfl (Pur.neqI rfl rfl) ?_
  refine JO.pur rfl rfl rfl (Pur.move rfl) ?_
  refine JO.setv (u' := .bool false) 19 rfl (congrArg Value.bool (decide_eq_false (fun h => h rfl))) ?_
  refine JO.pur rfl rfl rfl (Pur.move rfl) ?_
  refine JO.pur rfl rfl rfl (Pur.eqlPtrNil rfl) ?_
  refine JO.pur rfl rfl rfl (Pur.pickF rfl rfl) ?_
  refine JO.nil ?_
  refine J.setv (u' := .bool false) 22 rfl (congrArg Value.bool (rfl)) ?_
  refine J.condF rfl rfl ?_
  refine J.skip rfl ?_
  refine J.seq rfl ?_
  refine J.region rfl ?_
  refine JO.pur rfl rfl rfl (Pur.move rfl) ?_
  refine JO.imp (M := NB p aX0 :: L) (fun h s => s) ?_
  refine JO.eff rfl rfl rfl (Eff.call rfl (nput_ok (X := aX0) (fr := 0) (to := 1) (z := 5) (by decide) (by decide) (by decide) (by decide) (by decide))) ?_
  rintro _ _ ⟨rfl, rfl⟩
  rw [a01]
  refine JO.pur rfl rfl rfl (Pur.move rfl) ?_
  refine JO.pur rfl rfl rfl (Pur.extract rfl rfl) ?_
  refine JO.pur rfl rfl rfl (Pur.extract rfl rfl) ?_
  refine JO.pur rfl rfl rfl (Pur.assign rfl) ?_
  refine JO.pur rfl rfl rfl (Pur.assign rfl) ?_
  refine JO.nil ?_
  refine J.seq rfl ?_
  refine J.region rfl ?_
  refine JO.pur rfl rfl rfl (Pur.move rfl) ?_
  refine JO.eff rfl rfl rfl (Eff.call rfl (ndeliver_ok (X := aX1) (k := 0) (by decide) (by decide) (by decide) (by decide) (by decide) (by decide) (by decide) (by decide))) ?_
  rintro _ _ ⟨rfl, rfl⟩
  rw [a12]
  refine JO.pur rfl rfl rfl (Pur.assign rfl) ?_
  refine JO.nil ?_
  refine J.seq rfl ?_
  refine J.region rfl ?_
  refine JO.pur rfl rfl rfl (Pur.move rfl) ?_
  refine JO.effR rfl rfl rfl (Eff.call rfl (ncell_ok (X := aX2) (q := 1) (by decide))) ?_
  refine JO.pur rfl rfl rfl (Pur.move rfl) ?_
  refine JO.pur rfl rfl rfl (Pur.extract rfl rfl) ?_
  refine JO.pur rfl rfl rfl (Pur.extract rfl rfl) ?_
  refine JO.pur rfl rfl rfl (Pur.assign rfl) ?_
  refine JO.pur rfl rfl rfl (Pur.assign rfl) ?_
  refine JO.nil ?_
  refine J.seq rfl ?_
  refine J.region rfl ?_
  refine JO.pur rfl rfl rfl (Pur.move rfl) ?_
  refine JO.pur rfl rfl rfl (Pur.move rfl) ?_
  refine JO.effR rfl rfl rfl (Eff.call rfl (nDone_ok (X := aX2) (k := 1) (by decide) (by decide) (by decide) (by decide))) ?_
  refine JO.pur rfl rfl rfl (Pur.move rfl) ?_
  refine JO.pur rfl rfl rfl (Pur.extract rfl rfl) ?_
  refine JO.pur rfl rfl rfl (Pur.extract rfl rfl) ?_
  refine JO.pur rfl rfl rfl (Pur.assign rfl) ?_
  refine JO.pur rfl rfl rfl (Pur.assign rfl) ?_
  refine JO.nil ?_
  refine J.seq rfl ?_
  refine J.region rfl ?_
  refine JO.pur rfl rfl rfl (Pur.move rfl) ?_
  refine JO.eff rfl rfl rfl (Eff.call rfl (nDrain_ok (X := aX2) (by decide) (by decide) (by decide) (by decide) (by decide) (by decide) (by decide) (by decide) (by decide))) ?_
  rintro _ _ ⟨rfl, rfl⟩
  rw [a23]
  refine JO.pur rfl rfl rfl (Pur.move rfl) ?_
  refine JO.pur rfl rfl rfl (Pur.extract rfl rfl) ?_
  refine JO.pur rfl rfl rfl (Pur.extract rfl rfl) ?_
  refine JO.pur rfl rfl rfl (Pur.assign rfl) ?_
  refine JO.pur rfl rfl rfl (Pur.assign rfl) ?_
  refine JO.nil ?_
  refine J.seq rfl ?_
  refine J.region rfl ?_
  refine JO.pur rfl rfl rfl (Pur.move rfl) ?_
  refine JO.pur rfl rfl rfl (Pur.move rfl) ?_
  refine JO.effR rfl rfl rfl (Eff.call rfl (nDone_ok (X := aX3) (k := 1) (by decide) (by decide) (by decide) (by decide))) ?_
  refine JO.pur rfl rfl rfl (Pur.move rfl) ?_
  refine JO.pur rfl rfl rfl (Pur.extract rfl rfl) ?_
  refine JO.pur rfl rfl rfl (Pur.extract rfl rfl) ?_
  refine JO.pur rfl rfl rfl (Pur.assign rfl) ?_
  refine JO.pur rfl rfl rfl (Pur.assign rfl) ?_
  refine JO.nil ?_
  refine J.seq rfl ?_
  refine J.region rfl ?_
  refine JO.pur rfl rfl rfl (Pur.move rfl) ?_
  refine JO.pur rfl rfl rfl (Pur.eqlI rfl rfl) ?_
  refine JO.pur rfl rfl rfl (Pur.move rfl) ?_
  refine JO.setv (u' := .bool true) 54 rfl (congrArg Value.bool (decide_eq_true (by decide))) ?_
  refine JO.pur rfl rfl rfl (Pur.move rfl) ?_
  refine JO.pur rfl rfl rfl (Pur.eqlI rfl rfl) ?_
  refine JO.pur rfl rfl rfl (Pur.pickT rfl rfl) ?_
  refine JO.pur rfl rfl rfl (Pur.move rfl) ?_
  refine JO.setv (u' := .bool true) 58 rfl (congrArg Value.bool (decide_eq_true (by decide))) ?_
  refine JO.pur rfl rfl rfl (Pur.move rfl) ?_
  refine JO.pur rfl rfl rfl (Pur.eqlI rfl rfl) ?_
  refine JO.pur rfl rfl rfl (Pur.pickT rfl rfl) ?_
  refine JO.pur rfl rfl rfl (Pur.move rfl) ?_
  refine JO.setv (u' := .bool true) 62 rfl (congrArg Value.bool (decide_eq_true (by decide))) ?_
  refine JO.pur rfl rfl rfl (Pur.move rfl) ?_
  refine JO.pur rfl rfl rfl (Pur.eqlI rfl rfl) ?_
  refine JO.pur rfl rfl rfl (Pur.pickT rfl rfl) ?_
  refine JO.pur rfl rfl rfl (Pur.move rfl) ?_
  refine JO.setv (u' := .bool true) 66 rfl (congrArg Value.bool (decide_eq_true (by decide))) ?_
  refine JO.pur rfl rfl rfl (Pur.move rfl) ?_
  refine JO.pur rfl rfl rfl (Pur.eqlI rfl rfl) ?_
  refine JO.pur rfl rfl rfl (Pur.pickT rfl rfl) ?_
  refine JO.pur rfl rfl rfl (Pur.move rfl) ?_
  refine JO.setv (u' := .bool true) 70 rfl (congrArg Value.bool (decide_eq_true (by decide))) ?_
  refine JO.pur rfl rfl rfl (Pur.move rfl) ?_
  refine JO.pur rfl rfl rfl (Pur.eqlI rfl rfl) ?_
  refine JO.pur rfl rfl rfl (Pur.pickT rfl rfl) ?_
  refine JO.pur rfl rfl rfl (Pur.move rfl) ?_
  refine JO.setv (u' := .bool true) 74 rfl (congrArg Value.bool (decide_eq_true (by decide))) ?_
  refine JO.pur rfl rfl rfl (Pur.move rfl) ?_
  refine JO.pur rfl rfl rfl (Pur.eqlI rfl rfl) ?_
  refine JO.pur rfl rfl rfl (Pur.pickT rfl rfl) ?_
  refine JO.pur rfl rfl rfl (Pur.move rfl) ?_
  refine JO.setv (u' := .bool true) 78 rfl (congrArg Value.bool (decide_eq_true (by decide))) ?_
  refine JO.pur rfl rfl rfl (Pur.move rfl) ?_
  refine JO.pur rfl rfl rfl (Pur.not rfl) ?_
  refine JO.pur rfl rfl rfl (Pur.pickT rfl rfl) ?_
  refine JO.pur rfl rfl rfl (Pur.move rfl) ?_
  refine JO.setv (u' := .bool true) 82 rfl (congrArg Value.bool (rfl)) ?_
  refine JO.pur rfl rfl rfl (Pur.move rfl) ?_
  refine JO.pur rfl rfl rfl (Pur.pickT rfl rfl) ?_
  refine JO.pur rfl rfl rfl (Pur.move rfl) ?_
  refine JO.setv (u' := .bool true) 85 rfl (congrArg Value.bool (rfl)) ?_
  refine JO.pur rfl rfl rfl (Pur.move rfl) ?_
  refine JO.pur rfl rfl rfl (Pur.eqlI rfl rfl) ?_
  refine JO.pur rfl rfl rfl (Pur.pickT rfl rfl) ?_
  refine JO.pur rfl rfl rfl (Pur.assign rfl) ?_
  refine JO.nil ?_
  refine J.ret rfl rfl ?_
  refine ⟨_, _, ⟨rfl, rfl⟩, rfl, fun h s => SubC.out h s⟩

end Go.Proofs.Ytoikjjpleonllaa

/- The text NPl. -/
set_option linter.unusedVariables false
set_option linter.unusedSimpArgs false
namespace Nt
open Go Go.KK Gr
def v3 (m : Nm) : Int := if m.kd = 3 then m.v else 0
def w3 (m : Nm) : Nat := if m.kd = 3 then 2 else 1
theorem sum_but {l : List Nm} {k : Nat} {m : Nm} (h : l[k]? = some m) : ((l.take k ++ l.drop (k + 1)).map v3).sum + v3 m = (l.map v3).sum ∧ ((l.take k ++ l.drop (k + 1)).map w3).sum + w3 m = (l.map w3).sum := by
  obtain ⟨hl, e⟩ := List.getElem?_eq_some_iff.1 h
  have h1 : l = l.take k ++ (m :: l.drop (k + 1)) := by rw [← e, ← List.drop_eq_getElem_cons hl, List.take_append_drop]
  constructor
  · conv => rhs; rw [h1]
    simp only [List.map_append, List.map_cons, List.sum_append, List.sum_cons]; omega
  · conv => rhs; rw [h1]
    simp only [List.map_append, List.map_cons, List.sum_append, List.sum_cons]; omega
theorem len_w3 : ∀ l : List Nm, l.length ≤ (l.map w3).sum
  | [] => Nat.le_refl _
  | m :: l => by
    have := len_w3 l
    have h1 : 1 ≤ w3 m := by unfold w3; split <;> omega
    simp only [List.length_cons, List.map_cons, List.sum_cons]; omega
def msgOk (n r hl : Nat) (m : Nm) : Prop := (m.kd = 3 ∨ m.kd = 4) ∧ m.to < n ∧ m.fr < n ∧ m.cl = 0 ∧ 1 ≤ m.h ∧ m.h ≤ hl ∧ (m.kd = 3 → m.to = r)
structure NI (n r : Nat) (vs : List Int) (j t : Nat) (X : Ns) : Prop where
  len : X.cells.length = n
  hl : X.hd.length = j
  sb : X.sb ≤ j + t
  ms : ∀ m ∈ X.fly, msgOk n r j m
  w : (X.fly.map w3).sum + t ≤ 2 * j
  sum : wr (cellN X r + (X.fly.map v3).sum) = wr ((vs.take j).sum)
  nrm : wr (cellN X r) = cellN X r
theorem cell_set {X : Ns} {q r : Nat} {v : Int} (h : q < X.cells.length) : (X.cells.set q v).getD r 0 = if r = q then v else cellN X r := by
  by_cases e : r = q
  · subst e; rw [if_pos rfl, List.getD_eq_getElem?_getD, List.getElem?_set]; simp [h]
  · rw [if_neg e, List.getD_eq_getElem?_getD, List.getElem?_set, if_neg (Ne.symm e)]; unfold cellN; rw [List.getD_eq_getElem?_getD]
theorem msgOk.mono {n r a b : Nat} {m : Nm} (h : msgOk n r a m) (hab : a ≤ b) : msgOk n r b m := by
  obtain ⟨h1, h2, h3, h4, h5, h6, h7⟩ := h
  exact ⟨h1, h2, h3, h4, h5, by omega, h7⟩
theorem wr_wr (x : Int) : wr (wr x) = wr x := by have := wr_add x 0; simpa using this
theorem NI.add {n r : Nat} {vs : List Int} {j : Nat} {X : Ns} (h : NI n r vs j 0 X) (hr : r < n) (hj : j < n) {v : Int} (hv : vs[j]? = some v) : NI n r vs (j + 1) 0 (reqN X ⟨j, r, 3, 0, v, 0⟩) := by
  have hs : (vs.take (j + 1)).sum = (vs.take j).sum + v := by rw [List.take_add_one, hv]; simp
  have hlen := h.len
  unfold reqN
  dsimp only
  split
  · rename_i e
    subst e
    have hdv : doV (cellN X j) ⟨j, j, 3, 0, v, X.hd.length + 1⟩ = wr (cellN X j + v) := by unfold doV; simp
    have hc : cellN (doneN (doN (openN X j) ⟨j, j, 3, 0, v, X.hd.length + 1⟩) (X.hd.length + 1) (doA (cellN X j) ⟨j, j, 3, 0, v, 0⟩)) j = wr (cellN X j + v) := by
      show (X.cells.set j (doV (cellN X j) ⟨j, j, 3, 0, v, X.hd.length + 1⟩)).getD j 0 = _
      rw [cell_set (by omega), if_pos rfl, hdv]
    refine ⟨?_, ?_, ?_, fun m hm => (h.ms m hm).mono (by omega), ?_, ?_, ?_⟩
    · show (X.cells.set _ _).length = n; rw [List.length_set]; exact h.len
    · show ((X.hd ++ [_]).set _ _).length = j + 1; rw [List.length_set, List.length_append, h.hl]; rfl
    · show X.sb ≤ _; have := h.sb; omega
    · show (X.fly.map w3).sum + 0 ≤ _; have := h.w; omega
    · rw [hc]
      show wr (wr (cellN X j + v) + (X.fly.map v3).sum) = _
      rw [wr_add, hs, show cellN X j + v + (X.fly.map v3).sum = (cellN X j + (X.fly.map v3).sum) + v by omega, ← wr_add, h.sum, wr_add]
    · rw [hc, wr_wr]
  · rename_i e
    have hc : cellN (sendN (openN X j) ⟨j, r, 3, 0, v, X.hd.length + 1⟩) r = cellN X r := rfl
    refine ⟨h.len, ?_, ?_, fun m hm => ?_, ?_, ?_, ?_⟩
    · show (X.hd ++ [_]).length = j + 1; rw [List.length_append, h.hl]; rfl
    · show X.sb + 1 ≤ _; have := h.sb; omega
    · rcases List.mem_append.1 (show m ∈ X.fly ++ [_] from hm) with hm | hm
      · exact (h.ms m hm).mono (by omega)
      · rw [List.mem_singleton.1 hm]
        refine ⟨.inl rfl, hr, hj, rfl, by dsimp only; omega, by dsimp only; rw [h.hl]; exact Nat.le_refl _, fun _ => rfl⟩
    · show ((X.fly ++ [_]).map w3).sum + 0 ≤ _
      rw [List.map_append, List.sum_append]
      have := h.w
      show (X.fly.map w3).sum + (2 + 0) + 0 ≤ _
      omega
    · rw [hc]
      show wr (cellN X r + ((X.fly ++ [_]).map v3).sum) = _
      rw [List.map_append, List.sum_append]
      show wr (cellN X r + ((X.fly.map v3).sum + (v + 0))) = _
      rw [hs, show cellN X r + ((X.fly.map v3).sum + (v + 0)) = (cellN X r + (X.fly.map v3).sum) + v by omega, ← wr_add, h.sum, wr_add]
    · rw [hc]; exact h.nrm
theorem NI.dlv {n r : Nat} {vs : List Int} {j t : Nat} {X : Ns} (h : NI n r vs j t X) {k : Nat} (hk : k < X.fly.length) : NI n r vs j (t + 1) (dlvNt X k) := by
  have hm := msgN_get hk
  obtain ⟨m, hme⟩ : ∃ m, m = msgN X k := ⟨_, rfl⟩
  rw [← hme] at hm
  obtain ⟨o1, o2, o3, o4, o5, o6, o7⟩ := h.ms m (List.mem_of_getElem? hm)
  obtain ⟨s1, s2⟩ := sum_but hm
  have hlen := h.len
  have hmem : ∀ x, x ∈ X.fly.take k ++ X.fly.drop (k + 1) → x ∈ X.fly := fun x hx => by
    rcases List.mem_append.1 hx with hx | hx
    · exact List.mem_of_mem_take hx
    · exact List.mem_of_mem_drop hx
  unfold dlvNt
  dsimp only
  rw [← hme]
  have hw := h.w
  split
  · rename_i e4
    have hv3 : v3 m = 0 := if_neg (by omega)
    have hw3 : w3 m = 1 := if_neg (by omega)
    refine ⟨h.len, ?_, ?_, fun x hx => h.ms x (hmem x hx), ?_, ?_, h.nrm⟩
    · show (X.hd.set _ _).length = j; rw [List.length_set]; exact h.hl
    · show X.sb ≤ _; have := h.sb; omega
    · show ((X.fly.take k ++ X.fly.drop (k + 1)).map w3).sum + (t + 1) ≤ _; omega
    · show wr (cellN X r + ((X.fly.take k ++ X.fly.drop (k + 1)).map v3).sum) = _
      rw [← h.sum]; congr 1; omega
  · rename_i e4
    have e3 : m.kd = 3 := o1.resolve_right e4
    have hv3 : v3 m = m.v := if_pos e3
    have hw3 : w3 m = 2 := if_pos e3
    have hto := o7 e3
    have hdv : doV (cellN X m.to) m = wr (cellN X m.to + m.v) := by unfold doV; rw [if_neg (by omega), if_pos e3]
    have hc : cellN (sendN (doN (takeN X k) m) ⟨m.to, m.fr, 4, m.cl, doA (cellN X m.to) m, m.h⟩) r = wr (cellN X r + m.v) := by
      show (X.cells.set m.to (doV (cellN X m.to) m)).getD r 0 = _
      rw [cell_set (by omega), if_pos hto.symm, hdv, hto]
    refine ⟨?_, h.hl, ?_, fun x hx => ?_, ?_, ?_, ?_⟩
    · show (X.cells.set _ _).length = n; rw [List.length_set]; exact h.len
    · show X.sb + 1 ≤ _; have := h.sb; omega
    · rcases List.mem_append.1 (show x ∈ (X.fly.take k ++ X.fly.drop (k + 1)) ++ [_] from hx) with hx | hx
      · exact h.ms x (hmem x hx)
      · rw [List.mem_singleton.1 hx]
        exact ⟨.inr rfl, o3, o2, o4, o5, o6, fun g => (by cases g)⟩
    · show (((X.fly.take k ++ X.fly.drop (k + 1)) ++ [_]).map w3).sum + (t + 1) ≤ _
      rw [List.map_append, List.sum_append]
      show ((X.fly.take k ++ X.fly.drop (k + 1)).map w3).sum + (1 + 0) + (t + 1) ≤ _
      omega
    · rw [hc]
      show wr (wr (cellN X r + m.v) + (((X.fly.take k ++ X.fly.drop (k + 1)) ++ [_]).map v3).sum) = _
      rw [List.map_append, List.sum_append]
      show wr (wr (cellN X r + m.v) + (((X.fly.take k ++ X.fly.drop (k + 1)).map v3).sum + (0 + 0))) = _
      rw [wr_add, ← h.sum]; congr 1; omega
    · rw [hc, wr_wr]
theorem NI.end_ {n r : Nat} {vs : List Int} {j t : Nat} {X : Ns} (h : NI n r vs j t X) (he : X.fly = []) (hj : vs.length ≤ j) : cellN X r = wr vs.sum := by
  have := h.sum
  rw [he, List.take_of_length_le hj] at this
  simp at this
  rw [← h.nrm]; exact this
theorem NI.use {n r : Nat} {vs : List Int} {j t : Nat} {X : Ns} (h : NI n r vs j t X) (hn : n ≤ 8) (hj : j ≤ n) : X.fly.length ≤ 16 ∧ t ≤ 16 ∧ X.sb ≤ 24 ∧ X.hd.length ≤ 8 := by
  have h1 := len_w3 X.fly
  have h2 := h.w
  have h3 := h.sb
  have h4 := h.hl
  exact ⟨by omega, by omega, by omega, by omega⟩
end Nt
