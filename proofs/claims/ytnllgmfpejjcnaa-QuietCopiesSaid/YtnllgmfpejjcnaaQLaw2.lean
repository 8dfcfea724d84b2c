/-
  A part of the proof of the claim that this folder bears.
  This text: QLaw2.
-/
import Derived.Test.YtnllgmfpejjcnaaQLaw1
import Derived.Test.YtnllgmfpejjcnaaQWf
set_option linter.unusedVariables false
set_option linter.unusedSimpArgs false
namespace Go.Proofs.Ytnllgmfpejjcnaa
open Go Go.KK Qt

def fi0 : St := init 2
def fi1 : St := (Qt.idle fi0 0).2
def fi2 : St := (Qt.pass fi1).2.2
def fi3 : St := (Qt.pass fi2).2.2
theorem wfi0 : Wf fi0 0 := wf_init 2 (by omega) (by omega)
theorem wfi1 : Wf fi1 1 := wf_idle wfi0 (by omega) 0
theorem wfi2 : Wf fi2 2 := wf_pass wfi1 (by omega)
theorem wfi3 : Wf fi3 3 := wf_pass wfi2 (by omega)

theorem first_ok {L : List Asn} :
    CallS Try.prog 12 [].toArray L (fun v M => v = .bool true ∧ M = L) := by
  refine CallS.ent ?_
  refine CallS.enter Try.func12 rfl rfl rfl rfl rfl ?_
  refine J.seq rfl ?_
  refine J.region rfl ?_
  refine JO.pur rfl rfl rfl (Pur.assign rfl) ?_
  refine JO.nil ?_
  refine J.seq rfl ?_
  refine J.region rfl ?_
  refine JO.eff rfl rfl rfl (Eff.call rfl (newGood 2 (by omega))) ?_
  rintro _ _ ⟨r, rfl, rfl⟩
  refine JO.pur rfl rfl rfl (Pur.move rfl) ?_
  refine JO.pur rfl rfl rfl (Pur.extract rfl rfl) ?_
  refine JO.pur rfl rfl rfl (Pur.extract rfl rfl) ?_
  refine JO.pur rfl rfl rfl (Pur.assign rfl) ?_
  refine JO.pur rfl rfl rfl (Pur.assign rfl) ?_
  refine JO.nil ?_
  refine J.seq rfl ?_
  refine J.seq rfl ?_
  refine J.region rfl ?_
  refine JO.pur rfl rfl rfl (Pur.move rfl) ?_
  refine JO.pur rfl rfl rfl (Pur.neqI rfl rfl) ?_
  refine JO.pur rfl rfl rfl (Pur.move rfl) ?_
  refine JO.setv (u' := .bool false) 10 rfl (congrArg Value.bool ((by simp))) ?_
  refine JO.pur rfl rfl rfl (Pur.move rfl) ?_
  refine JO.pur rfl rfl rfl (Pur.eqlPtrNil rfl) ?_
  refine JO.pur rfl rfl rfl (Pur.pickF rfl rfl) ?_
  refine JO.pur rfl rfl rfl (Pur.move rfl) ?_
  refine JO.setv (u' := .bool false) 14 rfl (congrArg Value.bool ((by simp))) ?_
  refine JO.pur rfl rfl rfl (Pur.move rfl) ?_
  refine JO.eff rfl rfl rfl (Eff.call rfl (idle_at (σ := fi0) wfi0 0)) ?_
  rintro _ _ ⟨rfl, rfl⟩
  refine JO.pur rfl rfl rfl (Pur.neqI rfl rfl) ?_
  refine JO.pur rfl rfl rfl (Pur.pickF rfl rfl) ?_
  refine JO.nil ?_
  refine J.setv (u' := .bool false) 18 rfl (congrArg Value.bool ((by decide))) ?_
  refine J.condF rfl rfl ?_
  refine J.skip rfl ?_
  refine J.seq rfl ?_
  refine J.region rfl ?_
  refine JO.pur rfl rfl rfl (Pur.move rfl) ?_
  refine JO.eff rfl rfl rfl (Eff.call rfl (pass_at (σ := fi1) wfi1)) ?_
  rintro _ _ ⟨rfl, rfl⟩
  refine JO.nil ?_
  refine J.seq rfl ?_
  refine J.region rfl ?_
  refine JO.pur rfl rfl rfl (Pur.move rfl) ?_
  refine JO.eff rfl rfl rfl (Eff.call rfl (pass_at (σ := fi2) wfi2)) ?_
  rintro _ _ ⟨rfl, rfl⟩
  refine JO.nil ?_
  refine J.seq rfl ?_
  refine J.region rfl ?_
  refine JO.pur rfl rfl rfl (Pur.move rfl) ?_
  refine JO.eff rfl rfl rfl (Eff.call rfl (pass_at (σ := fi3) wfi3)) ?_
  rintro _ _ ⟨rfl, rfl⟩
  refine JO.pur rfl rfl rfl (Pur.move rfl) ?_
  refine JO.pur rfl rfl rfl (Pur.extract rfl rfl) ?_
  refine JO.pur rfl rfl rfl (Pur.extract rfl rfl) ?_
  refine JO.pur rfl rfl rfl (Pur.assign rfl) ?_
  refine JO.pur rfl rfl rfl (Pur.assign rfl) ?_
  refine JO.nil ?_
  refine J.seq rfl ?_
  refine J.region rfl ?_
  refine JO.pur rfl rfl rfl (Pur.move rfl) ?_
  refine JO.pur rfl rfl rfl (Pur.move rfl) ?_
  refine JO.setv (u' := .bool true) 29 rfl (congrArg Value.bool ((by decide))) ?_
  refine JO.pur rfl rfl rfl (Pur.move rfl) ?_
  refine JO.pur rfl rfl rfl (Pur.eqlI rfl rfl) ?_
  refine JO.pur rfl rfl rfl (Pur.pickT rfl rfl) ?_
  refine JO.pur rfl rfl rfl (Pur.assign rfl) ?_
  refine JO.nil ?_
  refine J.ret rfl rfl ?_
  refine ⟨_, _, ⟨rfl, rfl⟩, congrArg Value.bool (by decide), fun h hs => hs.tail⟩

theorem alike_ok {R : List Asn} (p r s : Nat) (σ : St) (N : Nat) (hw : Wf σ N) :
    CallS Try.prog 21 [.pointer (some ⟨p, 0, none⟩)].toArray (blk p (.cells #[.pointer (some ⟨r, 0, none⟩), .pointer (some ⟨s, 0, none⟩)] 35 (0, 0)) :: refA s σ :: ringA r σ :: R) (fun v M => v = .bool true ∧ M = blk p (.cells #[.pointer (some ⟨r, 0, none⟩), .pointer (some ⟨s, 0, none⟩)] 35 (0, 0)) :: refA s (σ) :: ringA r (σ) :: R) := by
  refine CallS.ent ?_
  have hal : (actList σ).length ≤ 1000000 := by have := actPre_le σ σ.spots.length; have := hw.le; unfold actList; omega
  have hcl : (counts σ).length ≤ 1000000 := by have := hw.le; simp [counts]; omega
  have hfl : σ.fly.length ≤ 1000000 := by have := hw.len; have := hw.num; omega
  refine CallS.enter Try.func21 rfl rfl rfl rfl rfl ?_
  refine J.pull (.tail .head) ?_
  refine ref_open fun a1 a2 a3 a4 c1 c2 c3 c4 => ?_
  refine J.pull (.tail (.tail (.tail (.tail (.tail (.tail .head)))))) ?_
  refine ring_open fun a b cap cap2 => ?_
  refine J.fact (fun h hs => SlH.nil (a := b) hs) fun hb0 => ?_
  have hb : b = none → σ.fly.length = 0 ∧ cap2 = 0 := fun e => ⟨by rw [(hb0 e).1]; rfl, (hb0 e).2⟩
  refine J.seq rfl ?_
  refine J.region rfl ?_
  refine JO.pur rfl rfl rfl (Pur.assign rfl) ?_
  refine JO.nil ?_
  refine J.seq rfl ?_
  refine J.region rfl ?_
  refine JO.pur rfl rfl rfl (Pur.move rfl) ?_
  refine JO.pur rfl rfl rfl (Pur.nilCheck rfl) ?_
  refine JO.pur rfl rfl rfl (Pur.fieldAddr rfl) ?_
  refine JO.pur rfl rfl rfl (Pur.load rfl (CellIn.blk rfl)) ?_
  refine JO.effR rfl rfl rfl (Eff.call rfl (tokenR hw hb)) ?_
  refine JO.pur rfl rfl rfl (Pur.move rfl) ?_
  refine JO.pur rfl rfl rfl (Pur.extract rfl rfl) ?_
  refine JO.pur rfl rfl rfl (Pur.extract rfl rfl) ?_
  refine JO.pur rfl rfl rfl (Pur.extract rfl rfl) ?_
  refine JO.pur rfl rfl rfl (Pur.extract rfl rfl) ?_
  refine JO.pur rfl rfl rfl (Pur.assign rfl) ?_
  refine JO.pur rfl rfl rfl (Pur.assign rfl) ?_
  refine JO.pur rfl rfl rfl (Pur.assign rfl) ?_
  refine JO.pur rfl rfl rfl (Pur.assign rfl) ?_
  refine JO.nil ?_
  refine J.seq rfl ?_
  refine J.region rfl ?_
  refine JO.pur rfl rfl rfl (Pur.move rfl) ?_
  refine JO.pur rfl rfl rfl (Pur.nilCheck rfl) ?_
  refine JO.pur rfl rfl rfl (Pur.fieldAddr rfl) ?_
  refine JO.pur rfl rfl rfl (Pur.load rfl (CellIn.blk rfl)) ?_
  refine JO.effR rfl rfl rfl (Eff.call rfl (tokenF hw)) ?_
  refine JO.pur rfl rfl rfl (Pur.move rfl) ?_
  refine JO.pur rfl rfl rfl (Pur.extract rfl rfl) ?_
  refine JO.pur rfl rfl rfl (Pur.extract rfl rfl) ?_
  refine JO.pur rfl rfl rfl (Pur.extract rfl rfl) ?_
  refine JO.pur rfl rfl rfl (Pur.assign rfl) ?_
  refine JO.pur rfl rfl rfl (Pur.assign rfl) ?_
  refine JO.pur rfl rfl rfl (Pur.assign rfl) ?_
  refine JO.nil ?_
  refine J.seq rfl ?_
  refine J.mask0 (n := 96) [] rfl Try.mixed rfl (by kernel_rfl) ?_
  refine JM.take 0 (fun _ h => h) rfl (by kernel_rfl) rfl rfl rfl (m' := 1) rfl (Pur.move rfl) ?_
  refine JM.take 1 (fun _ h => h) rfl (by kernel_rfl) rfl rfl rfl (m' := 3) rfl (Pur.eqlI rfl rfl) ?_
  refine JM.take 2 (fun _ h => h) rfl (by kernel_rfl) rfl rfl rfl (m' := 7) rfl (Pur.move rfl) ?_
  refine JM.setv (u' := .bool true) 31 rfl (congrArg Value.bool ((by simp [counts]))) ?_
  refine JM.take 3 (fun _ h => h) rfl (by kernel_rfl) rfl rfl rfl (m' := 15) rfl (Pur.move rfl) ?_
  refine JM.take 4 (fun _ h => h) rfl (by kernel_rfl) rfl rfl rfl (m' := 31) rfl (Pur.move rfl) ?_
  refine JM.take 5 (fun _ h => h) rfl (by kernel_rfl) rfl rfl rfl (m' := 63) rfl (Pur.eqlI rfl rfl) ?_
  refine JM.take 6 (fun _ h => h) rfl (by kernel_rfl) rfl rfl rfl (m' := 127) rfl (Pur.pickT rfl rfl) ?_
  refine JM.take 7 (fun _ h => h) rfl (by kernel_rfl) rfl rfl rfl (m' := 255) rfl (Pur.move rfl) ?_
  refine JM.setv (u' := .bool true) 36 rfl (congrArg Value.bool ((by simp [counts]))) ?_
  refine JM.take 8 (fun _ h => h) rfl (by kernel_rfl) rfl rfl rfl (m' := 511) rfl (Pur.move rfl) ?_
  refine JM.take 9 (fun _ h => h) rfl (by kernel_rfl) rfl rfl rfl (m' := 1023) rfl (Pur.move rfl) ?_
  refine JM.take 10 (fun _ h => h) rfl (by kernel_rfl) rfl rfl rfl (m' := 2047) rfl (Pur.eqlI rfl rfl) ?_
  refine JM.take 11 (fun _ h => h) rfl (by kernel_rfl) rfl rfl rfl (m' := 4095) rfl (Pur.pickT rfl rfl) ?_
  refine JM.take 12 (fun _ h => h) rfl (by kernel_rfl) rfl rfl rfl (m' := 8191) rfl (Pur.move rfl) ?_
  refine JM.setv (u' := .bool true) 41 rfl (congrArg Value.bool ((by simp [counts]))) ?_
  refine JM.take 13 (fun _ h => h) rfl (by kernel_rfl) rfl rfl rfl (m' := 16383) rfl (Pur.move rfl) ?_
  refine JM.take 14 (fun _ h => h) rfl (by kernel_rfl) rfl rfl rfl (m' := 32767) rfl (Pur.move rfl) ?_
  refine JM.take 15 (fun _ h => h) rfl (by kernel_rfl) rfl rfl rfl (m' := 65535) rfl (Pur.eqlB rfl rfl) ?_
  refine JM.take 16 (fun _ h => h) rfl (by kernel_rfl) rfl rfl rfl (m' := 131071) rfl (Pur.pickT rfl rfl) ?_
  refine JM.take 17 (fun _ h => h) rfl (by kernel_rfl) rfl rfl rfl (m' := 262143) rfl (Pur.move rfl) ?_
  refine JM.setv (u' := .bool true) 46 rfl (congrArg Value.bool ((by simp [counts]))) ?_
  refine JM.take 18 (fun _ h => h) rfl (by kernel_rfl) rfl rfl rfl (m' := 524287) rfl (Pur.move rfl) ?_
  refine JM.take 19 (fun _ h => h) rfl (by kernel_rfl) rfl rfl rfl (m' := 1048575) rfl (Pur.nilCheck rfl) ?_
  refine JM.take 20 (fun _ h => h) rfl (by kernel_rfl) rfl rfl rfl (m' := 2097151) rfl (Pur.fieldAddr rfl) ?_
  refine JM.take 21 (fun _ h => h) rfl (by kernel_rfl) rfl rfl rfl (m' := 4194303) rfl (Pur.load rfl (CellIn.blk rfl)) ?_
  refine JM.take 23 (fun _ h => h) rfl (by kernel_rfl) rfl rfl rfl (m' := 12582911) rfl (Pur.move rfl) ?_
  refine JM.take 24 (fun _ h => h) rfl (by kernel_rfl) rfl rfl rfl (m' := 29360127) rfl (Pur.nilCheck rfl) ?_
  refine JM.take 25 (fun _ h => h) rfl (by kernel_rfl) rfl rfl rfl (m' := 62914559) rfl (Pur.fieldAddr rfl) ?_
  refine JM.take 26 (fun _ h => h) rfl (by kernel_rfl) rfl rfl rfl (m' := 130023423) rfl (Pur.load rfl (CellIn.blk rfl)) ?_
  refine JM.one (i := 22) (by kernel_rfl) ?_
  refine JMi.effR (fun _ h => h) rfl rfl rfl rfl (m' := 134217727) rfl (Eff.call rfl (toldR hw hb)) ?_
  refine JM.one (i := 27) (by kernel_rfl) ?_
  refine JMi.effR (fun _ h => h) rfl rfl rfl rfl (m' := 268435455) rfl (Eff.call rfl (toldF hw)) ?_
  refine JM.take 28 (fun _ h => h) rfl (by kernel_rfl) rfl rfl rfl (m' := 536870911) rfl (Pur.eqlB rfl rfl) ?_
  refine JM.take 29 (fun _ h => h) rfl (by kernel_rfl) rfl rfl rfl (m' := 1073741823) rfl (Pur.pickT rfl rfl) ?_
  refine JM.take 30 (fun _ h => h) rfl (by kernel_rfl) rfl rfl rfl (m' := 2147483647) rfl (Pur.move rfl) ?_
  refine JM.setv (u' := .bool true) 59 rfl (congrArg Value.bool ((by simp [counts]))) ?_
  refine JM.take 31 (fun _ h => h) rfl (by kernel_rfl) rfl rfl rfl (m' := 4294967295) rfl (Pur.move rfl) ?_
  refine JM.take 32 (fun _ h => h) rfl (by kernel_rfl) rfl rfl rfl (m' := 8589934591) rfl (Pur.nilCheck rfl) ?_
  refine JM.take 33 (fun _ h => h) rfl (by kernel_rfl) rfl rfl rfl (m' := 17179869183) rfl (Pur.fieldAddr rfl) ?_
  refine JM.take 34 (fun _ h => h) rfl (by kernel_rfl) rfl rfl rfl (m' := 34359738367) rfl (Pur.load rfl (CellIn.blk rfl)) ?_
  refine JM.take 36 (fun _ h => h) rfl (by kernel_rfl) rfl rfl rfl (m' := 103079215103) rfl (Pur.move rfl) ?_
  refine JM.take 37 (fun _ h => h) rfl (by kernel_rfl) rfl rfl rfl (m' := 240518168575) rfl (Pur.nilCheck rfl) ?_
  refine JM.take 38 (fun _ h => h) rfl (by kernel_rfl) rfl rfl rfl (m' := 515396075519) rfl (Pur.fieldAddr rfl) ?_
  refine JM.take 39 (fun _ h => h) rfl (by kernel_rfl) rfl rfl rfl (m' := 1065151889407) rfl (Pur.load rfl (CellIn.blk rfl)) ?_
  refine JM.one (i := 35) (by kernel_rfl) ?_
  refine JMi.effR (fun _ h => h) rfl rfl rfl rfl (m' := 1099511627775) rfl (Eff.call rfl (overR hw hb)) ?_
  refine JM.one (i := 40) (by kernel_rfl) ?_
  refine JMi.effR (fun _ h => h) rfl rfl rfl rfl (m' := 2199023255551) rfl (Eff.call rfl (overF hw)) ?_
  refine JM.take 41 (fun _ h => h) rfl (by kernel_rfl) rfl rfl rfl (m' := 4398046511103) rfl (Pur.eqlB rfl rfl) ?_
  refine JM.take 42 (fun _ h => h) rfl (by kernel_rfl) rfl rfl rfl (m' := 8796093022207) rfl (Pur.pickT rfl rfl) ?_
  refine JM.take 43 (fun _ h => h) rfl (by kernel_rfl) rfl rfl rfl (m' := 17592186044415) rfl (Pur.move rfl) ?_
  refine JM.setv (u' := .bool true) 72 rfl (congrArg Value.bool ((by simp [counts]))) ?_
  refine JM.take 44 (fun _ h => h) rfl (by kernel_rfl) rfl rfl rfl (m' := 35184372088831) rfl (Pur.move rfl) ?_
  refine JM.take 45 (fun _ h => h) rfl (by kernel_rfl) rfl rfl rfl (m' := 70368744177663) rfl (Pur.nilCheck rfl) ?_
  refine JM.take 46 (fun _ h => h) rfl (by kernel_rfl) rfl rfl rfl (m' := 140737488355327) rfl (Pur.fieldAddr rfl) ?_
  refine JM.take 47 (fun _ h => h) rfl (by kernel_rfl) rfl rfl rfl (m' := 281474976710655) rfl (Pur.load rfl (CellIn.blk rfl)) ?_
  refine JM.take 49 (fun _ h => h) rfl (by kernel_rfl) rfl rfl rfl (m' := 844424930131967) rfl (Pur.move rfl) ?_
  refine JM.take 50 (fun _ h => h) rfl (by kernel_rfl) rfl rfl rfl (m' := 1970324836974591) rfl (Pur.nilCheck rfl) ?_
  refine JM.take 51 (fun _ h => h) rfl (by kernel_rfl) rfl rfl rfl (m' := 4222124650659839) rfl (Pur.fieldAddr rfl) ?_
  refine JM.take 52 (fun _ h => h) rfl (by kernel_rfl) rfl rfl rfl (m' := 8725724278030335) rfl (Pur.load rfl (CellIn.blk rfl)) ?_
  refine JM.one (i := 48) (by kernel_rfl) ?_
  refine JMi.effR (fun _ h => h) rfl rfl rfl rfl (m' := 9007199254740991) rfl (Eff.call rfl (passesR hw hb)) ?_
  refine JM.one (i := 53) (by kernel_rfl) ?_
  refine JMi.effR (fun _ h => h) rfl rfl rfl rfl (m' := 18014398509481983) rfl (Eff.call rfl (passesF hw)) ?_
  refine JM.take 54 (fun _ h => h) rfl (by kernel_rfl) rfl rfl rfl (m' := 36028797018963967) rfl (Pur.eqlI rfl rfl) ?_
  refine JM.take 55 (fun _ h => h) rfl (by kernel_rfl) rfl rfl rfl (m' := 72057594037927935) rfl (Pur.pickT rfl rfl) ?_
  refine JM.take 56 (fun _ h => h) rfl (by kernel_rfl) rfl rfl rfl (m' := 144115188075855871) rfl (Pur.move rfl) ?_
  refine JM.setv (u' := .bool true) 85 rfl (congrArg Value.bool ((by simp [counts]))) ?_
  refine JM.take 57 (fun _ h => h) rfl (by kernel_rfl) rfl rfl rfl (m' := 288230376151711743) rfl (Pur.move rfl) ?_
  refine JM.take 58 (fun _ h => h) rfl (by kernel_rfl) rfl rfl rfl (m' := 576460752303423487) rfl (Pur.nilCheck rfl) ?_
  refine JM.take 59 (fun _ h => h) rfl (by kernel_rfl) rfl rfl rfl (m' := 1152921504606846975) rfl (Pur.fieldAddr rfl) ?_
  refine JM.take 60 (fun _ h => h) rfl (by kernel_rfl) rfl rfl rfl (m' := 2305843009213693951) rfl (Pur.load rfl (CellIn.blk rfl)) ?_
  refine JM.take 62 (fun _ h => h) rfl (by kernel_rfl) rfl rfl rfl (m' := 6917529027641081855) rfl (Pur.move rfl) ?_
  refine JM.take 63 (fun _ h => h) rfl (by kernel_rfl) rfl rfl rfl (m' := 16140901064495857663) rfl (Pur.nilCheck rfl) ?_
  refine JM.take 64 (fun _ h => h) rfl (by kernel_rfl) rfl rfl rfl (m' := 34587645138205409279) rfl (Pur.fieldAddr rfl) ?_
  refine JM.take 65 (fun _ h => h) rfl (by kernel_rfl) rfl rfl rfl (m' := 71481133285624512511) rfl (Pur.load rfl (CellIn.blk rfl)) ?_
  refine JM.one (i := 61) (by kernel_rfl) ?_
  refine JMi.eff rfl rfl rfl rfl (m' := 73786976294838206463) rfl (Eff.call rfl (activeR hw hb)) ?_
  rintro _ _ ⟨a90, c90, rfl, rfl⟩
  refine ⟨.inr (fun _ h => h.tail), ?_⟩
  refine JM.one (i := 66) (by kernel_rfl) ?_
  refine JMi.eff rfl rfl rfl rfl (m' := 147573952589676412927) rfl (Eff.call rfl (activeF hw)) ?_
  rintro _ _ ⟨a95, c95, rfl, rfl⟩
  refine ⟨.inr (fun _ h => h.tail.tail), ?_⟩
  refine JM.one (i := 67) (by kernel_rfl) ?_
  refine JMi.effR (fun _ h => h.tail.tail) rfl rfl rfl rfl (m' := 295147905179352825855) rfl (Eff.call rfl (sameInts rfl rfl hal)) ?_
  refine JM.take 68 (fun _ h => h.tail.tail) rfl (by kernel_rfl) rfl rfl rfl (m' := 590295810358705651711) rfl (Pur.pickT rfl rfl) ?_
  refine JM.take 69 (fun _ h => h.tail.tail) rfl (by kernel_rfl) rfl rfl rfl (m' := 1180591620717411303423) rfl (Pur.move rfl) ?_
  refine JM.setv (u' := .bool true) 98 rfl (congrArg Value.bool ((by simp [counts]))) ?_
  refine JM.take 70 (fun _ h => h.tail.tail) rfl (by kernel_rfl) rfl rfl rfl (m' := 2361183241434822606847) rfl (Pur.move rfl) ?_
  refine JM.take 71 (fun _ h => h.tail.tail) rfl (by kernel_rfl) rfl rfl rfl (m' := 4722366482869645213695) rfl (Pur.nilCheck rfl) ?_
  refine JM.take 72 (fun _ h => h.tail.tail) rfl (by kernel_rfl) rfl rfl rfl (m' := 9444732965739290427391) rfl (Pur.fieldAddr rfl) ?_
  refine JM.take 73 (fun _ h => h.tail.tail) rfl (by kernel_rfl) rfl rfl rfl (m' := 18889465931478580854783) rfl (Pur.load rfl (CellIn.blk rfl)) ?_
  refine JM.take 75 (fun _ h => h.tail.tail) rfl (by kernel_rfl) rfl rfl rfl (m' := 56668397794435742564351) rfl (Pur.move rfl) ?_
  refine JM.take 76 (fun _ h => h.tail.tail) rfl (by kernel_rfl) rfl rfl rfl (m' := 132226261520350065983487) rfl (Pur.nilCheck rfl) ?_
  refine JM.take 77 (fun _ h => h.tail.tail) rfl (by kernel_rfl) rfl rfl rfl (m' := 283341988972178712821759) rfl (Pur.fieldAddr rfl) ?_
  refine JM.take 78 (fun _ h => h.tail.tail) rfl (by kernel_rfl) rfl rfl rfl (m' := 585573443875836006498303) rfl (Pur.load rfl (CellIn.blk rfl)) ?_
  refine JM.one (i := 74) (by kernel_rfl) ?_
  refine JMi.eff rfl rfl rfl rfl (m' := 604462909807314587353087) rfl (Eff.call rfl (countsR hw hb)) ?_
  rintro _ _ ⟨a103, c103, rfl, rfl⟩
  refine ⟨.inr (fun _ h => h.tail.tail.tail), ?_⟩
  refine JM.one (i := 79) (by kernel_rfl) ?_
  refine JMi.effR (fun _ h => h.tail.tail.tail) rfl rfl rfl rfl (m' := 1208925819614629174706175) rfl (Eff.call rfl (countsF hw)) ?_
  refine JM.one (i := 80) (by kernel_rfl) ?_
  refine JMi.effR (fun _ h => h.tail.tail.tail) rfl rfl rfl rfl (m' := 2417851639229258349412351) rfl (Eff.call rfl (sameInts rfl (by simp) hcl)) ?_
  refine JM.take 81 (fun _ h => h.tail.tail.tail) rfl (by kernel_rfl) rfl rfl rfl (m' := 4835703278458516698824703) rfl (Pur.pickT rfl rfl) ?_
  refine JM.take 82 (fun _ h => h.tail.tail.tail) rfl (by kernel_rfl) rfl rfl rfl (m' := 9671406556917033397649407) rfl (Pur.move rfl) ?_
  refine JM.setv (u' := .bool true) 111 rfl (congrArg Value.bool ((by simp [counts]))) ?_
  refine JM.take 83 (fun _ h => h.tail.tail.tail) rfl (by kernel_rfl) rfl rfl rfl (m' := 19342813113834066795298815) rfl (Pur.move rfl) ?_
  refine JM.take 84 (fun _ h => h.tail.tail.tail) rfl (by kernel_rfl) rfl rfl rfl (m' := 38685626227668133590597631) rfl (Pur.nilCheck rfl) ?_
  refine JM.take 85 (fun _ h => h.tail.tail.tail) rfl (by kernel_rfl) rfl rfl rfl (m' := 77371252455336267181195263) rfl (Pur.fieldAddr rfl) ?_
  refine JM.take 86 (fun _ h => h.tail.tail.tail) rfl (by kernel_rfl) rfl rfl rfl (m' := 154742504910672534362390527) rfl (Pur.load rfl (CellIn.blk rfl)) ?_
  refine JM.take 88 (fun _ h => h.tail.tail.tail) rfl (by kernel_rfl) rfl rfl rfl (m' := 464227514732017603087171583) rfl (Pur.move rfl) ?_
  refine JM.take 89 (fun _ h => h.tail.tail.tail) rfl (by kernel_rfl) rfl rfl rfl (m' := 1083197534374707740536733695) rfl (Pur.nilCheck rfl) ?_
  refine JM.take 90 (fun _ h => h.tail.tail.tail) rfl (by kernel_rfl) rfl rfl rfl (m' := 2321137573660088015435857919) rfl (Pur.fieldAddr rfl) ?_
  refine JM.take 91 (fun _ h => h.tail.tail.tail) rfl (by kernel_rfl) rfl rfl rfl (m' := 4797017652230848565234106367) rfl (Pur.load rfl (CellIn.blk rfl)) ?_
  refine JM.one (i := 87) (by kernel_rfl) ?_
  refine JMi.eff rfl rfl rfl rfl (m' := 4951760157141521099596496895) rfl (Eff.call rfl (flyingR hw hb)) ?_
  rintro _ _ ⟨a116, c116, rfl, rfl⟩
  refine ⟨.inr (fun _ h => h.tail.tail.tail.tail), ?_⟩
  refine JM.one (i := 92) (by kernel_rfl) ?_
  refine JMi.effR (fun _ h => h.tail.tail.tail.tail) rfl rfl rfl rfl (m' := 9903520314283042199192993791) rfl (Eff.call rfl (flyingF hw)) ?_
  refine JM.one (i := 93) (by kernel_rfl) ?_
  refine JMi.effR (fun _ h => h.tail.tail.tail.tail) rfl rfl rfl rfl (m' := 19807040628566084398385987583) rfl (Eff.call rfl (samePairs rfl rfl hfl)) ?_
  refine JM.take 94 (fun _ h => h.tail.tail.tail.tail) rfl (by kernel_rfl) rfl rfl rfl (m' := 39614081257132168796771975167) rfl (Pur.pickT rfl rfl) ?_
  refine JM.take 95 (fun _ h => h.tail.tail.tail.tail) rfl (by kernel_rfl) rfl rfl rfl (m' := 79228162514264337593543950335) rfl (Pur.assign rfl) ?_
  refine JM.done rfl ?_
  refine J.ret rfl rfl ?_
  refine ⟨_, _, ⟨rfl, rfl⟩, congrArg Value.bool (by simp), fun h hs => ?_⟩
  have hs := ring_shut rfl rfl hs.tail.tail.tail.tail
  have hs := ref_shut (Sat.pull (.tail (.tail (.tail (.tail (.tail .head))))) (Sat.pull (.tail (.tail (.tail (.tail (.tail .head))))) (Sat.pull (.tail (.tail (.tail (.tail (.tail .head))))) (Sat.pull (.tail (.tail (.tail (.tail (.tail .head))))) (Sat.pull (.tail (.tail (.tail (.tail (.tail .head))))) hs))))) rfl rfl rfl rfl rfl rfl rfl
  exact (Sat.pull (.tail (.tail .head)) (Sat.pull (.tail .head) (Sat.pull (.tail .head) hs)))

end Go.Proofs.Ytnllgmfpejjcnaa
