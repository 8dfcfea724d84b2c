/-
  A part of the proof of the claim that this folder bears.
-/
import Derived.Test.YtoikjjpleonllaaPAB
/- The text G3. -/
set_option linter.unusedVariables false
set_option linter.unusedSimpArgs false
set_option maxRecDepth 10000
namespace Go.Proofs.Ytoikjjpleonllaa
open Go Go.KK Gr

theorem scan_ok {L : List Asn} {p : Nat} {am : Option Addr} {cm : Nat} {bs : List Nat} {g : Gs} {i N : Nat} (hw : wf g) (hi0 : i < N) (hN : N = g.ms.length) (ho : okOp g.op) (hfb : g.fly.length + 4 ≤ 1000000) :
    CallS Try.prog 55 [.pointer (some ⟨p, 0, none⟩), .int .i64 (i : Int)].toArray (GB p am cm bs g :: L) (fun v M => v = .tuple #[] ∧ M = GB p am cm bs (scan 4 g i) :: L) := by
  refine CallS.ent ?_
  refine CallS.enter Try.func55 rfl rfl rfl rfl rfl ?_
  refine GB_open fun af cf hb => ?_
  refine J.seq rfl ?_
  refine J.region rfl ?_
  refine JO.pur rfl rfl rfl (Pur.move rfl) ?_
  refine JO.pur rfl rfl rfl (Pur.nilCheck rfl) ?_
  refine JO.pur rfl rfl rfl (Pur.fieldAddr rfl) ?_
  refine JO.pur rfl rfl rfl (Pur.load rfl (CellIn.blk rfl)) ?_
  refine JO.pur rfl rfl rfl (Pur.move rfl) ?_
  refine JO.pur rfl rfl rfl (Pur.idx rfl rfl rfl (by first | rfl | (simp; done) | omega | (rw [List.length_zip]; omega) | (rw [List.length_zip, List.length_set]; omega)) rfl (by rw [List.length_zip]; omega)) ?_
  refine JO.pur rfl rfl rfl (Pur.assign rfl) ?_
  refine JO.nil ?_
  refine J.seq rfl ?_
  refine J.block rfl ?_
  refine J.loopF (ι := Nat × Gs) (fun q => wf q.2 ∧ q.2.ms.length = N ∧ scan q.1 q.2 i = scan 4 g i ∧ 4 ≤ (mem q.2 i).r + q.1 ∧ okOp q.2.op ∧ q.2.fly.length + q.1 ≤ g.fly.length + 4) (fun q => []) [(0, _), (1, _), (4, _)] (fun q => GB p am cm bs q.2 :: L) (fun q => q.1) (4, g) rfl (.cons rfl rfl (.cons rfl rfl (.cons rfl rfl .nil))) .nil (fun h s => GB_mk (af := af) (cf := cf) hb (SubC.out (M := blk p (gC g.kind g.op g.root am g.ms.length cm af g.fly.length cf g.sent) :: sl memE am cm (g.ms.zip bs) :: sl msgE af cf g.fly :: star (List.zipWith mpA bs g.ms) :: L) h s)) ⟨hw, hN.symm, rfl, by dsimp only; omega, ho, Nat.le_refl _⟩ ?_
  rintro ⟨f, X⟩ ⟨hw, hn, hsc, hf4, ho, hfl⟩ ihf
  try dsimp only
  dsimp only at hw hn hsc hf4 ho hfl
  clear hb
  refine GB_open fun af cf hb => ?_
  have hi : i < X.ms.length := by omega
  have hr3 := hw.2.2.1 _ (mem_mem hi)
  have hp8 := pow_le hr3
  have hn8 := hw.2.1
  obtain ⟨w, hw2⟩ : ∃ w, w = 2 ^ (mem X i).r := ⟨_, rfl⟩
  rw [← hw2] at hp8
  obtain ⟨f, rfl⟩ : ∃ f', f = f' + 1 := ⟨f - 1, by omega⟩
  obtain ⟨b, hbi⟩ : ∃ b, bs[i]? = some b := ⟨_, List.getElem?_eq_getElem (by omega)⟩
  have hzm := zip_get (mem_get hi) hbi
  refine J.imp (fun h s => mp_take hbi (mem_get hi) (SubC.out (M := star (List.zipWith mpA bs X.ms) :: blk p (gC X.kind X.op X.root am X.ms.length cm af X.fly.length cf X.sent) :: sl memE am cm (X.ms.zip bs) :: sl msgE af cf X.fly :: L) h s)) ?_
  refine J.seq rfl ?_
  refine J.seq rfl ?_
  refine J.mask0 (n := 11) [] rfl Try.mixed rfl (by kernel_rfl) ?_
  refine JM.take 0 (fun _ h => h) rfl (by kernel_rfl) rfl rfl rfl (m' := 1) rfl (Pur.move rfl) ?_
  refine JM.take 1 (fun _ h => h) rfl (by kernel_rfl) rfl rfl rfl (m' := 3) rfl (Pur.nilCheck rfl) ?_
  refine JM.take 2 (fun _ h => h) rfl (by kernel_rfl) rfl rfl rfl (m' := 7) rfl (Pur.fieldAddr rfl) ?_
  refine JM.take 3 (fun _ h => h) rfl (by kernel_rfl) rfl rfl rfl (m' := 15) rfl (Pur.load rfl (CellIn.el rfl hzm rfl)) ?_
  refine JM.setv (u' := .int .i64 ((mem X i).r : Int)) 16 rfl rfl ?_
  refine JM.take 4 (fun _ h => h) rfl (by kernel_rfl) rfl rfl rfl (m' := 31) rfl (Pur.shl rfl rfl rfl (by omega) (shl_ok hr3)) ?_
  refine JM.setv (u' := .int .i64 (w : Int)) 17 rfl (congrArg (Value.int .i64) (by rw [hw2]; exact shl_nat _)) ?_
  refine JM.take 5 (fun _ h => h) rfl (by kernel_rfl) rfl rfl rfl (m' := 63) rfl (Pur.move rfl) ?_
  refine JM.take 6 (fun _ h => h) rfl (by kernel_rfl) rfl rfl rfl (m' := 127) rfl (Pur.nilCheck rfl) ?_
  refine JM.take 7 (fun _ h => h) rfl (by kernel_rfl) rfl rfl rfl (m' := 255) rfl (Pur.fieldAddr rfl) ?_
  refine JM.take 8 (fun _ h => h) rfl (by kernel_rfl) rfl rfl rfl (m' := 511) rfl (Pur.load rfl (CellIn.blk rfl)) ?_
  refine JM.take 9 (fun _ h => h) rfl (by kernel_rfl) rfl rfl rfl (m' := 1023) rfl (Pur.len rfl) ?_
  refine JM.take 10 (fun _ h => h) rfl (by kernel_rfl) rfl rfl rfl (m' := 2047) rfl (Pur.lss rfl rfl) ?_
  refine JM.done rfl ?_
  refine J.splitB 23 rfl (fun h23 => ?_) (fun h23 => ?_)
  · try simp only [bSimp, bSimp2, ne_eq] at h23
    have hrn : 2 ^ (mem X i).r < X.ms.length := by rw [← hw2]; omega
    refine J.condT rfl rfl ?_
    refine J.skip rfl ?_
    refine J.block rfl ?_
    refine J.seq rfl ?_
    refine J.seq rfl ?_
    refine J.region rfl ?_
    refine JO.pur rfl rfl rfl (Pur.move rfl) ?_
    refine JO.pur rfl rfl rfl (Pur.move rfl) ?_
    refine JO.pur rfl rfl rfl (Pur.nilCheck rfl) ?_
    refine JO.pur rfl rfl rfl (Pur.fieldAddr rfl) ?_
    refine JO.pur rfl rfl rfl (Pur.load rfl (CellIn.el rfl hzm rfl)) ?_
    refine JO.setv (u' := .int .i64 ((mem X i).r : Int)) 28 rfl rfl ?_
    refine JO.pur rfl rfl rfl (Pur.shl rfl rfl rfl (by omega) (shl_ok hr3)) ?_
    refine JO.setv (u' := .int .i64 (w : Int)) 29 rfl (congrArg (Value.int .i64) (by rw [hw2]; exact shl_nat _)) ?_
    refine JO.pur rfl rfl rfl (Pur.geq rfl rfl) ?_
    refine JO.nil ?_
    refine J.splitB 30 rfl (fun h30 => ?_) (fun h30 => ?_)
    · try simp only [bSimp, bSimp2, ne_eq] at h30
      have hpi : 2 ^ (mem X i).r ≤ i := by rw [← hw2]; omega
      refine J.condT rfl rfl ?_
      refine J.seq rfl ?_
      refine J.mask0 (n := 14) [] rfl Try.mixed rfl (by kernel_rfl) ?_
      refine JM.take 0 (fun _ h => h) rfl (by kernel_rfl) rfl rfl rfl (m' := 1) rfl (Pur.move rfl) ?_
      refine JM.take 1 (fun _ h => h) rfl (by kernel_rfl) rfl rfl rfl (m' := 3) rfl (Pur.nilCheck rfl) ?_
      refine JM.take 2 (fun _ h => h) rfl (by kernel_rfl) rfl rfl rfl (m' := 7) rfl (Pur.fieldAddr rfl) ?_
      refine JM.take 3 (fun _ h => h) rfl (by kernel_rfl) rfl rfl rfl (m' := 15) rfl (Pur.load rfl (CellIn.el rfl hzm rfl)) ?_
      refine JM.setv (u' := .map (some b)) 35 rfl rfl ?_
      refine JM.take 4 (fun _ h => h) rfl (by kernel_rfl) rfl rfl rfl (m' := 31) rfl (Pur.move rfl) ?_
      refine JM.take 5 (fun _ h => h) rfl (by kernel_rfl) rfl rfl rfl (m' := 63) rfl (Pur.nilCheck rfl) ?_
      refine JM.take 6 (fun _ h => h) rfl (by kernel_rfl) rfl rfl rfl (m' := 127) rfl (Pur.fieldAddr rfl) ?_
      refine JM.take 7 (fun _ h => h) rfl (by kernel_rfl) rfl rfl rfl (m' := 255) rfl (Pur.load rfl (CellIn.el rfl hzm rfl)) ?_
      refine JM.setv (u' := .int .i64 ((mem X i).r : Int)) 39 rfl rfl ?_
      refine JM.take 8 (fun _ h => h) rfl (by kernel_rfl) rfl rfl rfl (m' := 511) rfl (Pur.lookupOk (K := intK) (m := kvs (mem X i).got) (k := ((mem X i).r : Int)) rfl rfl) ?_
      rw [kvs_look]
      refine JM.take 9 (fun _ h => h) rfl (by kernel_rfl) rfl rfl rfl (m' := 1023) rfl (Pur.move rfl) ?_
      refine JM.take 10 (fun _ h => h) rfl (by kernel_rfl) rfl rfl rfl (m' := 2047) rfl (Pur.extract rfl rfl) ?_
      refine JM.take 11 (fun _ h => h) rfl (by kernel_rfl) rfl rfl rfl (m' := 4095) rfl (Pur.extract rfl rfl) ?_
      refine JM.take 12 (fun _ h => h) rfl (by kernel_rfl) rfl rfl rfl (m' := 8191) rfl (Pur.assign rfl) ?_
      refine JM.take 13 (fun _ h => h) rfl (by kernel_rfl) rfl rfl rfl (m' := 16383) rfl (Pur.assign rfl) ?_
      refine JM.done rfl ?_
      refine J.seq rfl ?_
      refine J.seq rfl ?_
      refine J.region rfl ?_
      refine JO.pur rfl rfl rfl (Pur.move rfl) ?_
      refine JO.pur rfl rfl rfl (Pur.not rfl) ?_
      refine JO.nil ?_
      refine J.splitB 44 rfl (fun h44 => ?_) (fun h44 => ?_)
      · try simp only [bSimp, bSimp2, ne_eq] at h44
        have hlk : lookI (mem X i).got ((mem X i).r : Int) = none := by simpa using h44
        refine J.condT rfl rfl ?_
        refine J.ret rfl rfl ?_
        refine ⟨_, _, ⟨rfl, rfl⟩, rfl, fun h s => ?_⟩
        rw [← hsc, scan_wait hrn hpi hlk]
        have s3 := mp_put (m' := mem X i) hbi (mem_get hi) (SubC.out (M := mp intK b (kvs (mem X i).got) :: zwBut mpA i bs X.ms :: blk p (gC X.kind X.op X.root am X.ms.length cm af X.fly.length cf X.sent) :: sl memE am cm (X.ms.zip bs) :: sl msgE af cf X.fly :: L) h s)
        rw [set_same (mem_get hi)] at s3
        exact GB_mk (af := af) (cf := cf) hb (SubC.out (M := blk p (gC X.kind X.op X.root am X.ms.length cm af X.fly.length cf X.sent) :: sl memE am cm (X.ms.zip bs) :: sl msgE af cf X.fly :: star (List.zipWith mpA bs X.ms) :: L) h s3)
      · try simp only [bSimp, bSimp2, ne_eq] at h44
        obtain ⟨z, hlk⟩ : ∃ z, lookI (mem X i).got ((mem X i).r : Int) = some z := Option.isSome_iff_exists.1 (by simpa using h44)
        refine J.condF rfl rfl ?_
        refine J.skip rfl ?_
        refine J.region rfl ?_
        refine JO.pur rfl rfl rfl (Pur.move rfl) ?_
        refine JO.pur rfl rfl rfl (Pur.move rfl) ?_
        refine JO.pur rfl rfl rfl (Pur.move rfl) ?_
        refine JO.setv (u' := .int .i64 z) 47 rfl (by rw [hlk]; rfl) ?_
        refine JO.pur rfl rfl rfl (Pur.move rfl) ?_
        refine JO.pur rfl rfl rfl (Pur.nilCheck rfl) ?_
        refine JO.pur rfl rfl rfl (Pur.fieldAddr rfl) ?_
        refine JO.pur rfl rfl rfl (Pur.load rfl (CellIn.el rfl hzm rfl)) ?_
        refine JO.setv (u' := .int .i64 (mem X i).v) 51 rfl rfl ?_
        refine JO.effR rfl rfl rfl (Eff.call rfl (join_ok (a := z) (b := (mem X i).v) ho)) ?_
        refine JO.pur rfl rfl rfl (Pur.nilCheck rfl) ?_
        refine JO.pur rfl rfl rfl (Pur.fieldAddr rfl) ?_
        obtain ⟨m1, hm1⟩ : ∃ m1 : Mm, m1 = { mem X i with v := opV X.op z (mem X i).v } := ⟨_, rfl⟩
        refine JO.setv (u' := .int .i64 m1.v) 52 rfl (by rw [hm1]) ?_
        have hm1r : m1.r = (mem X i).r := by rw [hm1]
        have hm1g : m1.got = (mem X i).got := by rw [hm1]
        have hm1h : m1.has = (mem X i).has := by rw [hm1]
        have hm1s : m1.res = (mem X i).res := by rw [hm1]
        have hsn : scan (f + 1) X i = scan f (send (setM X i { m1 with r := m1.r + 1 }) i) i := by rw [hm1]; exact scan_some hi hrn hpi hlk
        refine JO.effN rfl rfl (Eff.storeS (z' := ({ mem X i with v := m1.v }, b)) rfl rfl rfl rfl hzm .head) ?_
        rintro _ _ ⟨rfl, rfl⟩
        rw [show ({ mem X i with v := m1.v } : Mm) = m1 by rw [hm1], zip_set hbi]
        refine JO.nil ?_
        refine J.seq rfl ?_
        have hzm1 : ((X.ms.set i m1).zip bs)[i]? = some (m1, b) := zip_get (by rw [List.getElem?_set]; simp [hi]) hbi
        obtain ⟨m2, hm2⟩ : ∃ m2 : Mm, m2 = { m1 with r := m1.r + 1 } := ⟨_, rfl⟩
        have hm2r : m2.r = m1.r + 1 := by rw [hm2]
        have hm2g : m2.got = (mem X i).got := by rw [hm2]; exact hm1g
        have hr2 := r_lt hw hi hrn
        have hw3 : wf (setM X i m2) := wf_set hw (by omega)
        rw [← hm2] at hsn
        have hnext : scan f (send (setM X i m2) i) i = scan 4 g i := by rw [← hsn]; exact hsc
        refine J.region rfl ?_
        refine JO.pur rfl rfl rfl (Pur.move rfl) ?_
        refine JO.pur rfl rfl rfl (Pur.nilCheck rfl) ?_
        refine JO.pur rfl rfl rfl (Pur.fieldAddr rfl) ?_
        refine JO.pur rfl rfl rfl (Pur.load rfl (CellIn.el rfl hzm1 rfl)) ?_
        refine JO.setv (u' := .int .i64 (m1.r : Int)) 58 rfl rfl ?_
        refine JO.pur rfl rfl rfl (Pur.add rfl rfl (wr64 (by omega))) ?_
        refine JO.setv (u' := .int .i64 (m2.r : Int)) 59 rfl (congrArg (Value.int .i64) (by omega)) ?_
        refine JO.pur rfl rfl rfl (Pur.nilCheck rfl) ?_
        refine JO.pur rfl rfl rfl (Pur.fieldAddr rfl) ?_
        refine JO.effN rfl rfl (Eff.storeS (z' := ({ m1 with r := m2.r }, b)) rfl rfl rfl rfl hzm1 (.tail .head)) ?_
        rintro _ _ ⟨rfl, rfl⟩
        rw [show ({ m1 with r := m2.r } : Mm) = m2 by rw [hm2], zip_set hbi, List.set_set]
        refine JO.nil ?_
        refine J.region rfl ?_
        refine JO.pur rfl rfl rfl (Pur.move rfl) ?_
        refine JO.pur rfl rfl rfl (Pur.move rfl) ?_
        rw [← hm2g]
        refine JO.imp (M := GB p am cm bs (setM X i m2) :: L) (fun h s => by have s2 : Sat h (mp intK b (kvs m2.got) :: zwBut mpA i bs X.ms :: blk p (gC X.kind X.op X.root am X.ms.length cm af X.fly.length cf X.sent) :: sl memE am cm ((X.ms.set i m2).zip bs) :: sl msgE af cf X.fly :: L) := SubC.out h s; have s3 := mp_put (m' := m2) hbi (mem_get hi) s2; have s4 : Sat h (blk p (gC X.kind X.op X.root am X.ms.length cm af X.fly.length cf X.sent) :: sl memE am cm ((X.ms.set i m2).zip bs) :: sl msgE af cf X.fly :: star (List.zipWith mpA bs (X.ms.set i m2)) :: L) := SubC.out h s3; have e9 : X.ms.length = (X.ms.set i m2).length := (by simp); rw [e9] at s4; exact GB_mk (g := setM X i m2) (by rw [set_len]; exact hb) s4) ?_
        refine JO.eff rfl rfl rfl (Eff.call rfl (send_ok (g := setM X i m2) hw3 (by rw [set_len]; exact hi) (by show X.fly.length ≤ 1000000; omega))) ?_
        rintro _ _ ⟨rfl, rfl⟩
        refine JO.nil ?_
        refine J.inBlock ?_
        exact J.weaken (.cons rfl rfl (.cons rfl rfl (.cons rfl rfl .nil))) (fun h s => by dsimp only; exact SubC.out h s) (ihf (f, send (setM X i m2) i) ⟨wf_send hw3 (by rw [set_len]; exact hi), by rw [send_len, set_len]; exact hn, hnext, by dsimp only; rw [send_mem, mem_set hi]; omega, by dsimp only; rw [(send_op _ _).1]; exact ho, by have := send_fly (setM X i m2) i; have e : (setM X i m2).fly.length = X.fly.length := rfl; dsimp only; omega⟩ (by dsimp only; omega))
    · try simp only [bSimp, bSimp2, ne_eq] at h30
      have hpi : ¬ 2 ^ (mem X i).r ≤ i := by rw [← hw2]; omega
      obtain ⟨m1, hm1⟩ : ∃ m1, m1 = mem X i := ⟨_, rfl⟩
      have hs1 : X.ms.set i m1 = X.ms := by rw [hm1]; exact set_same (mem_get hi)
      refine J.imp (M := mp intK b (kvs (mem X i).got) :: zwBut mpA i bs X.ms :: blk p (gC X.kind X.op X.root am X.ms.length cm af X.fly.length cf X.sent) :: sl memE am cm ((X.ms.set i m1).zip bs) :: sl msgE af cf X.fly :: L) (fun h s => by rw [hs1]; exact SubC.out h s) ?_
      have hm1r : m1.r = (mem X i).r := by rw [hm1]
      have hm1g : m1.got = (mem X i).got := by rw [hm1]
      have hsn : scan (f + 1) X i = scan f (send (setM X i { m1 with r := m1.r + 1 }) i) i := by rw [hm1]; exact scan_go hrn hpi
      refine J.condF rfl rfl ?_
      refine J.skip rfl ?_
      refine J.seq rfl ?_
      have hzm1 : ((X.ms.set i m1).zip bs)[i]? = some (m1, b) := zip_get (by rw [List.getElem?_set]; simp [hi]) hbi
      obtain ⟨m2, hm2⟩ : ∃ m2 : Mm, m2 = { m1 with r := m1.r + 1 } := ⟨_, rfl⟩
      have hm2r : m2.r = m1.r + 1 := by rw [hm2]
      have hm2g : m2.got = (mem X i).got := by rw [hm2]; exact hm1g
      have hr2 := r_lt hw hi hrn
      have hw3 : wf (setM X i m2) := wf_set hw (by omega)
      rw [← hm2] at hsn
      have hnext : scan f (send (setM X i m2) i) i = scan 4 g i := by rw [← hsn]; exact hsc
      refine J.region rfl ?_
      refine JO.pur rfl rfl rfl (Pur.move rfl) ?_
      refine JO.pur rfl rfl rfl (Pur.nilCheck rfl) ?_
      refine JO.pur rfl rfl rfl (Pur.fieldAddr rfl) ?_
      refine JO.pur rfl rfl rfl (Pur.load rfl (CellIn.el rfl hzm1 rfl)) ?_
      refine JO.setv (u' := .int .i64 (m1.r : Int)) 58 rfl rfl ?_
      refine JO.pur rfl rfl rfl (Pur.add rfl rfl (wr64 (by omega))) ?_
      refine JO.setv (u' := .int .i64 (m2.r : Int)) 59 rfl (congrArg (Value.int .i64) (by omega)) ?_
      refine JO.pur rfl rfl rfl (Pur.nilCheck rfl) ?_
      refine JO.pur rfl rfl rfl (Pur.fieldAddr rfl) ?_
      refine JO.effN rfl rfl (Eff.storeS (z' := ({ m1 with r := m2.r }, b)) rfl rfl rfl rfl hzm1 (.tail .head)) ?_
      rintro _ _ ⟨rfl, rfl⟩
      rw [show ({ m1 with r := m2.r } : Mm) = m2 by rw [hm2], zip_set hbi, List.set_set]
      refine JO.nil ?_
      refine J.region rfl ?_
      refine JO.pur rfl rfl rfl (Pur.move rfl) ?_
      refine JO.pur rfl rfl rfl (Pur.move rfl) ?_
      rw [← hm2g]
      refine JO.imp (M := GB p am cm bs (setM X i m2) :: L) (fun h s => by have s2 : Sat h (mp intK b (kvs m2.got) :: zwBut mpA i bs X.ms :: blk p (gC X.kind X.op X.root am X.ms.length cm af X.fly.length cf X.sent) :: sl memE am cm ((X.ms.set i m2).zip bs) :: sl msgE af cf X.fly :: L) := SubC.out h s; have s3 := mp_put (m' := m2) hbi (mem_get hi) s2; have s4 : Sat h (blk p (gC X.kind X.op X.root am X.ms.length cm af X.fly.length cf X.sent) :: sl memE am cm ((X.ms.set i m2).zip bs) :: sl msgE af cf X.fly :: star (List.zipWith mpA bs (X.ms.set i m2)) :: L) := SubC.out h s3; have e9 : X.ms.length = (X.ms.set i m2).length := (by simp); rw [e9] at s4; exact GB_mk (g := setM X i m2) (by rw [set_len]; exact hb) s4) ?_
      refine JO.eff rfl rfl rfl (Eff.call rfl (send_ok (g := setM X i m2) hw3 (by rw [set_len]; exact hi) (by show X.fly.length ≤ 1000000; omega))) ?_
      rintro _ _ ⟨rfl, rfl⟩
      refine JO.nil ?_
      refine J.inBlock ?_
      exact J.weaken (.cons rfl rfl (.cons rfl rfl (.cons rfl rfl .nil))) (fun h s => by dsimp only; exact SubC.out h s) (ihf (f, send (setM X i m2) i) ⟨wf_send hw3 (by rw [set_len]; exact hi), by rw [send_len, set_len]; exact hn, hnext, by dsimp only; rw [send_mem, mem_set hi]; omega, by dsimp only; rw [(send_op _ _).1]; exact ho, by have := send_fly (setM X i m2) i; have e : (setM X i m2).fly.length = X.fly.length := rfl; dsimp only; omega⟩ (by dsimp only; omega))
  · try simp only [bSimp, bSimp2, ne_eq] at h23
    have hrn : ¬ 2 ^ (mem X i).r < X.ms.length := by rw [← hw2]; omega
    refine J.condF rfl rfl ?_
    refine J.exit rfl rfl ?_
    refine J.region rfl ?_
    refine JO.pur rfl rfl rfl (Pur.move rfl) ?_
    refine JO.pur rfl rfl rfl (Pur.move rfl) ?_
    refine JO.pur rfl rfl rfl (Pur.move rfl) ?_
    refine JO.pur rfl rfl rfl (Pur.nilCheck rfl) ?_
    refine JO.pur rfl rfl rfl (Pur.fieldAddr rfl) ?_
    refine JO.pur rfl rfl rfl (Pur.load rfl (CellIn.el rfl hzm rfl)) ?_
    refine JO.setv (u' := .int .i64 (mem X i).v) 70 rfl rfl ?_
    refine JO.pur rfl rfl rfl (Pur.nilCheck rfl) ?_
    refine JO.pur rfl rfl rfl (Pur.fieldAddr rfl) ?_
    try rw [zip_set hbi]
    have hzr : ((X.ms.set i { mem X i with res := (mem X i).v }).zip bs)[i]? = some ({ mem X i with res := (mem X i).v }, b) := zip_get (by rw [List.getElem?_set]; simp [hi]) hbi
    refine JO.effN rfl rfl (Eff.storeS (z' := ({ mem X i with res := (mem X i).v }, b)) rfl rfl rfl rfl hzm (.tail (.tail (.tail (.tail .head))))) ?_
    rintro _ _ ⟨rfl, rfl⟩
    refine JO.pur rfl rfl rfl (Pur.nilCheck rfl) ?_
    refine JO.pur rfl rfl rfl (Pur.fieldAddr rfl) ?_
    try rw [zip_set hbi]
    have hzr : ((X.ms.set i { mem X i with res := (mem X i).v }).zip bs)[i]? = some ({ mem X i with res := (mem X i).v }, b) := zip_get (by rw [List.getElem?_set]; simp [hi]) hbi
    refine JO.effN rfl rfl (Eff.storeS (z' := ({ mem X i with res := (mem X i).v, has := true }, b)) rfl rfl rfl rfl hzr (.tail (.tail (.tail .head)))) ?_
    rintro _ _ ⟨rfl, rfl⟩
    refine JO.nil ?_
    refine J.fin rfl ?_
    refine ⟨_, _, ⟨rfl, rfl⟩, rfl, fun h s => ?_⟩
    rw [← hsc, scan_end hrn]
    rw [zip_set hbi, List.set_set] at s
    have s3 := mp_put (m' := { mem X i with res := (mem X i).v, has := true }) hbi (mem_get hi) (SubC.out (M := mp intK b (kvs (mem X i).got) :: zwBut mpA i bs X.ms :: blk p (gC X.kind X.op X.root am X.ms.length cm af X.fly.length cf X.sent) :: sl memE am cm ((X.ms.set i { mem X i with res := (mem X i).v, has := true }).zip bs) :: sl msgE af cf X.fly :: L) h s)
    have s4 : Sat h (blk p (gC X.kind X.op X.root am X.ms.length cm af X.fly.length cf X.sent) :: sl memE am cm ((X.ms.set i { mem X i with res := (mem X i).v, has := true }).zip bs) :: sl msgE af cf X.fly :: star (List.zipWith mpA bs (X.ms.set i { mem X i with res := (mem X i).v, has := true })) :: L) := SubC.out h s3
    have e9 : X.ms.length = (X.ms.set i { mem X i with res := (mem X i).v, has := true }).length := by simp
    rw [e9] at s4
    exact GB_mk (g := setM X i { mem X i with res := (mem X i).v, has := true }) (by rw [set_len]; exact hb) s4

end Go.Proofs.Ytoikjjpleonllaa

/- The text G4. -/
set_option linter.unusedVariables false
set_option linter.unusedSimpArgs false
set_option maxRecDepth 10000
namespace Go.Proofs.Ytoikjjpleonllaa
open Go Go.KK Gr

theorem all_set {α : Type} {E : Enc α} {l : List α} {i : Nat} {x y : α} (h : l[i]? = some x) (he : E.enc y = E.enc x) : E.all (l.set i y) = E.all l := by
  unfold Enc.all
  rw [List.flatMap_def, List.flatMap_def, List.map_set, he]
  congr 1
  exact set_same (by rw [List.getElem?_map, h]; rfl)
theorem sl_same {α : Type} {E : Enc α} {a : Option Addr} {cap : Nat} {xs ys : List α} {h : Hp} (h1 : xs.length = ys.length) (h2 : E.all xs = E.all ys) (s : sl E a cap xs h) : sl E a cap ys h := by
  rcases sl_iff.1 s with ⟨a1, a2, a3⟩ | ⟨b, sp, a1, a2, a3, a4, a5⟩
  · exact sl_iff.2 (.inl ⟨a1, a2, List.eq_nil_of_length_eq_zero (by rw [← h1, a3]; rfl)⟩)
  · exact sl_iff.2 (.inr ⟨b, sp, a1, by omega, a3, by rw [← h1]; exact a4, by rw [← h2]; exact a5⟩)
theorem beginS_ok {L : List Asn} {p : Nat} {am : Option Addr} {cm : Nat} {bs : List Nat} {g : Gs} (hw : wf g) (hk : g.kind = sScan) (ho : okOp g.op) (hf : g.fly.length ≤ 1000) :
    CallS Try.prog 44 [.pointer (some ⟨p, 0, none⟩)].toArray (GB p am cm bs g :: L) (fun v M => v = .tuple #[] ∧ M = GB p am cm bs (begS g g.ms.length) :: L) := by
  have hn8 := hw.2.1
  refine CallS.ent ?_
  refine CallS.enter Try.func44 rfl rfl rfl rfl rfl ?_
  refine GB_open fun af cf hb => ?_
  refine J.seq rfl ?_
  refine J.region rfl ?_
  refine JO.pur rfl rfl rfl (Pur.move rfl) ?_
  refine JO.pur rfl rfl rfl (Pur.nilCheck rfl) ?_
  refine JO.pur rfl rfl rfl (Pur.fieldAddr rfl) ?_
  refine JO.pur rfl rfl rfl (Pur.load rfl (CellIn.blk rfl)) ?_
  refine JO.nil ?_
  refine J.block rfl ?_
  refine J.seq rfl ?_
  refine J.region rfl ?_
  refine JO.pur rfl rfl rfl (Pur.eqlT rfl rfl) ?_
  refine JO.pur rfl rfl rfl (Pur.assign rfl) ?_
  refine JO.nil ?_
  refine J.setv (u' := .bool false) 33 rfl (congrArg Value.bool ((by rw [hk]; decide))) ?_
  refine J.condF rfl rfl ?_
  refine J.seq rfl ?_
  refine J.region rfl ?_
  refine JO.pur rfl rfl rfl (Pur.eqlT rfl rfl) ?_
  refine JO.pur rfl rfl rfl (Pur.assign rfl) ?_
  refine JO.nil ?_
  refine J.setv (u' := .bool true) 52 rfl (congrArg Value.bool ((by rw [hk]; decide))) ?_
  refine J.condT rfl rfl ?_
  refine J.seq rfl ?_
  refine J.region rfl ?_
  refine JO.pur rfl rfl rfl (Pur.move rfl) ?_
  refine JO.pur rfl rfl rfl (Pur.nilCheck rfl) ?_
  refine JO.pur rfl rfl rfl (Pur.fieldAddr rfl) ?_
  refine JO.pur rfl rfl rfl (Pur.load rfl (CellIn.blk rfl)) ?_
  refine JO.pur rfl rfl rfl (Pur.len rfl) ?_
  refine JO.pur rfl rfl rfl (Pur.move rfl) ?_
  refine JO.nil ?_
  refine J.block rfl ?_
  refine J.loopF (ι := Nat) (fun q => q ≤ g.ms.length) (fun q => [(59, .int .i64 (q : Int))]) [(0, _), (58, _)] (fun q => GB p am cm bs (begS g q) :: L) (fun q => g.ms.length - q) 0 rfl (.cons rfl rfl (.cons rfl rfl .nil)) (.cons rfl rfl .nil) (fun h s => GB_mk (g := g) (af := af) (cf := cf) hb (SubC.out (M := blk p (gC g.kind g.op g.root am g.ms.length cm af g.fly.length cf g.sent) :: sl memE am cm (g.ms.zip bs) :: sl msgE af cf g.fly :: star (List.zipWith mpA bs g.ms) :: L) h s)) (Nat.zero_le _) ?_
  rintro q hq ihq
  try dsimp only
  refine J.seq rfl ?_
  refine J.region rfl ?_
  refine JO.pur rfl rfl rfl (Pur.lss rfl rfl) ?_
  refine JO.nil ?_
  refine J.seq rfl ?_
  refine J.splitB 60 rfl (fun h60 => ?_) (fun h60 => ?_)
  · try simp only [bSimp, bSimp2, ne_eq] at h60
    have hql : q < g.ms.length := by omega
    obtain ⟨k1, k2, k3, k4, k5, k6⟩ := begS_keep hw q hq
    have w2 := wf_send k1 (p := q) (by omega)
    have f2 := send_fly (begS g q) q
    have o2 := send_op (begS g q) q
    refine J.condT rfl rfl ?_
    refine J.skip rfl ?_
    refine J.seq rfl ?_
    refine J.block rfl ?_
    refine J.seq rfl ?_
    refine J.region rfl ?_
    refine JO.pur rfl rfl rfl (Pur.move rfl) ?_
    refine JO.pur rfl rfl rfl (Pur.assign rfl) ?_
    refine JO.nil ?_
    refine J.seq rfl ?_
    refine J.region rfl ?_
    refine JO.pur rfl rfl rfl (Pur.move rfl) ?_
    refine JO.pur rfl rfl rfl (Pur.move rfl) ?_
    refine JO.eff rfl rfl rfl (Eff.call rfl (send_ok (g := begS g q) (i := q) k1 (by omega) (by omega))) ?_
    rintro _ _ ⟨rfl, rfl⟩
    refine JO.nil ?_
    refine J.region rfl ?_
    refine JO.pur rfl rfl rfl (Pur.move rfl) ?_
    refine JO.pur rfl rfl rfl (Pur.move rfl) ?_
    refine JO.eff rfl rfl rfl (Eff.call rfl (scan_ok (g := send (begS g q) q) (i := q) (N := g.ms.length) w2 hql (by rw [send_len]; exact k2.symm) (by rw [o2.1, k4]; exact ho) (by omega))) ?_
    rintro _ _ ⟨rfl, rfl⟩
    refine JO.nil ?_
    refine J.inBlock ?_
    refine J.region rfl ?_
    refine JO.pur rfl rfl rfl (Pur.add rfl rfl (wr64 (by omega))) ?_
    refine JO.pur rfl rfl rfl (Pur.move rfl) ?_
    refine JO.nil ?_
    exact J.weaken (.cons rfl (congrArg (Value.int .i64) (by first | rfl | (dsimp only; omega))) (.cons rfl rfl (.cons rfl rfl .nil))) (fun h s => by show Sat h (GB p am cm bs (scan 4 (send (begS g q) q) q) :: L); exact SubC.out h s) (ihq (q + 1) (by omega) (by omega))
  · try simp only [bSimp, bSimp2, ne_eq] at h60
    have hqe : q = g.ms.length := by omega
    refine J.condF rfl rfl ?_
    refine J.exit rfl rfl ?_
    refine J.inBlock ?_
    refine J.fin rfl ?_
    refine ⟨_, _, ⟨rfl, rfl⟩, rfl, fun h s => ?_⟩
    rw [hqe] at s
    exact SubC.out h s

theorem delM_core {R : List Asn} {a : Option Addr} {n cap : Nat} {xs : List Ms} {i j : Int} (i' j' : Nat) (hi : i = (i' : Int)) (hj : j = (j' : Int)) (hn : n = xs.length) (h1 : i' < j') (h2 : j' ≤ n) (hb : xs.length ≤ 1000000) :
    CallS Try.prog 54 [.slice a n cap, .int .i64 i, .int .i64 j].toArray (sl msgE a cap xs :: R) (fun v M => ∃ B, (v = .slice a (i' + (n - j')) cap ∧ B = sl msgE a cap (xs.take i' ++ xs.drop j')) ∧ M = B :: R) := by
  subst hi
  subst hj
  subst hn
  refine CallS.enter Try.func54 rfl rfl rfl rfl rfl ?_
  refine J.fact (fun h hs => SlH.le (a := a) hs) fun hcap => ?_
  refine J.seq rfl ?_
  refine J.region rfl ?_
  refine JO.pur rfl rfl rfl (Pur.assign rfl) ?_
  refine JO.nil ?_
  refine J.seq rfl ?_
  refine J.region rfl ?_
  refine JO.pur rfl rfl rfl (Pur.move rfl) ?_
  refine JO.pur rfl rfl rfl (Pur.move rfl) ?_
  refine JO.pur rfl rfl rfl (Pur.move rfl) ?_
  refine JO.pur rfl rfl rfl (Pur.move rfl) ?_
  refine JO.pur rfl rfl rfl (Pur.len rfl) ?_
  refine JO.pur rfl rfl rfl (Pur.slice3 rfl rfl rfl rfl rfl rfl rfl (by omega) (by omega) (by omega)) ?_
  refine JO.nil ?_
  refine J.seq rfl ?_
  refine J.seq rfl ?_
  refine J.region rfl ?_
  refine JO.pur rfl rfl rfl (Pur.move rfl) ?_
  refine JO.pur rfl rfl rfl (Pur.move rfl) ?_
  refine JO.pur rfl rfl rfl (Pur.eqlI rfl rfl) ?_
  refine JO.nil ?_
  refine J.setv (u' := .bool false) 16 rfl (congrArg Value.bool (decide_eq_false (by omega))) ?_
  refine J.condF rfl rfl ?_
  refine J.skip rfl ?_
  refine J.seq rfl ?_
  refine J.region rfl ?_
  refine JO.pur rfl rfl rfl (Pur.move rfl) ?_
  refine JO.pur rfl rfl rfl (Pur.len rfl) ?_
  refine JO.pur rfl rfl rfl (Pur.assign rfl) ?_
  refine JO.nil ?_
  refine J.seq rfl ?_
  refine J.mask1 (n := 8) [] rfl Try.mixed rfl (by kernel_rfl) ?_
  refine JM.take 0 (fun _ h => h.tail) rfl (by kernel_rfl) rfl rfl rfl (m' := 1) rfl (Pur.move rfl) ?_
  refine JM.take 1 (fun _ h => h.tail) rfl (by kernel_rfl) rfl rfl rfl (m' := 3) rfl (Pur.move rfl) ?_
  refine JM.take 2 (fun _ h => h.tail) rfl (by kernel_rfl) rfl rfl rfl (m' := 7) rfl (Pur.slice0 rfl rfl rfl (by omega)) ?_
  refine JM.take 3 (fun _ h => h.tail) rfl (by kernel_rfl) rfl rfl rfl (m' := 15) rfl (Pur.move rfl) ?_
  refine JM.take 4 (fun _ h => h.tail) rfl (by kernel_rfl) rfl rfl rfl (m' := 31) rfl (Pur.move rfl) ?_
  refine JM.take 5 (fun _ h => h.tail) rfl (by kernel_rfl) rfl rfl rfl (m' := 63) rfl (Pur.slice1 rfl rfl rfl (by omega) (by omega)) ?_
  refine JM.one (i := 6) (by kernel_rfl) ?_
  refine JMi.eff rfl rfl rfl rfl (m' := 127) rfl (Eff.deleteApp rfl rfl rfl rfl rfl (by omega) (by omega) (by omega)) ?_
  rintro _ _ ⟨rfl, rfl⟩
  refine ⟨.inr (fun _ h => h.tail), ?_⟩
  refine JM.take 7 (fun _ h => h.tail) rfl (by kernel_rfl) rfl rfl rfl (m' := 255) rfl (Pur.assign rfl) ?_
  refine JM.done rfl ?_
  refine J.seq rfl ?_
  refine J.region rfl ?_
  refine JO.pur rfl rfl rfl (Pur.move rfl) ?_
  refine JO.pur rfl rfl rfl (Pur.move rfl) ?_
  refine JO.pur rfl rfl rfl (Pur.len rfl) ?_
  refine JO.pur rfl rfl rfl (Pur.move rfl) ?_
  refine JO.pur rfl rfl rfl (Pur.slice2 rfl rfl rfl rfl rfl (by omega) (by omega)) ?_
  refine JO.effN rfl rfl (Eff.clearSpare rfl rfl rfl (by simp; omega) (by omega) (by decide)) ?_
  rintro _ _ ⟨rfl, rfl⟩
  refine JO.nil ?_
  refine J.seq rfl ?_
  refine J.region rfl ?_
  refine JO.pur rfl rfl rfl (Pur.move rfl) ?_
  refine JO.pur rfl rfl rfl (Pur.assign rfl) ?_
  refine JO.nil ?_
  refine J.ret rfl rfl ?_
  exact ⟨_, ⟨rfl, rfl⟩, rfl⟩

theorem delM {L : List Asn} {a : Option Addr} {n cap : Nat} {xs : List Ms} {f : Asn → List Asn} [hh : SlH msgE L a cap xs f] {i j : Int} (i' j' : Nat) (hi : i = (i' : Int)) (hj : j = (j' : Int)) (hn : n = xs.length) (h1 : i' < j') (h2 : j' ≤ n) (hb : xs.length ≤ 1000000) :
    CallS Try.prog 54 [.slice a n cap, .int .i64 i, .int .i64 j].toArray L (fun v M => ∃ B, (v = .slice a (i' + (n - j')) cap ∧ B = sl msgE a cap (xs.take i' ++ xs.drop j')) ∧ M = f B) :=
  CallS.at (fun R => delM_core i' j' hi hj hn h1 h2 hb) hh.out

theorem deliverS_ok {L : List Asn} {p : Nat} {am : Option Addr} {cm : Nat} {bs : List Nat} {g : Gs} {k : Nat} (hw : wf g) (hk : k < g.fly.length) (hkd : g.kind = sScan) (ho : okOp g.op) (hf : g.fly.length + 4 ≤ 1000000) :
    CallS Try.prog 14 [.pointer (some ⟨p, 0, none⟩), .int .i64 (k : Int)].toArray (GB p am cm bs g :: L) (fun v M => v = .int .i64 0 ∧ M = GB p am cm bs (dlvS g k) :: L) := by
  have hn8 := hw.2.1
  have hn1 := hw.1
  have hmm := hw.2.2.2 _ (List.mem_of_getElem? (msg_get hk))
  have hto := hmm.1
  have hw3 : wf (setM (takeM g k) (msg g k).to (gotM g (msg g k))) := wf_set (wf_take hw k) (by have h9 := hw.2.2.1 _ (mem_mem hto); exact h9)
  refine CallS.ent ?_
  refine CallS.enter Try.func14 rfl rfl rfl rfl rfl ?_
  refine GB_open fun af cf hb => ?_
  obtain ⟨b, hbi⟩ : ∃ b, bs[(msg g k).to]? = some b := ⟨_, List.getElem?_eq_getElem (by omega)⟩
  have hzm := zip_get (mem_get hto) hbi
  have hzs1 : (g.ms.zip bs).length = ((g.ms.set (msg g k).to (gotM g (msg g k))).zip bs).length := by simp
  have hzs2 : memE.all (g.ms.zip bs) = memE.all ((g.ms.set (msg g k).to (gotM g (msg g k))).zip bs) := by rw [← zip_set hbi]; exact (all_set (E := memE) (y := (gotM g (msg g k), b)) hzm rfl).symm
  refine J.seq rfl ?_
  refine J.region rfl ?_
  refine JO.pur rfl rfl rfl (Pur.assign rfl) ?_
  refine JO.nil ?_
  refine J.seq rfl ?_
  refine J.block rfl ?_
  refine J.seq rfl ?_
  refine J.region rfl ?_
  refine JO.pur rfl rfl rfl (Pur.move rfl) ?_
  refine JO.effR rfl rfl rfl (Eff.call rfl (none_ok)) ?_
  refine JO.pur rfl rfl rfl (Pur.assign rfl) ?_
  refine JO.nil ?_
  refine J.setv (u' := .bool false) 7 rfl (congrArg Value.bool (decide_eq_false (by omega))) ?_
  refine J.condF rfl rfl ?_
  refine J.seq rfl ?_
  refine J.region rfl ?_
  refine JO.pur rfl rfl rfl (Pur.move rfl) ?_
  refine JO.pur rfl rfl rfl (Pur.lss rfl rfl) ?_
  refine JO.pur rfl rfl rfl (Pur.move rfl) ?_
  refine JO.setv (u' := .bool false) 13 rfl (congrArg Value.bool (decide_eq_false (by omega))) ?_
  refine JO.pur rfl rfl rfl (Pur.move rfl) ?_
  refine JO.pur rfl rfl rfl (Pur.move rfl) ?_
  refine JO.pur rfl rfl rfl (Pur.nilCheck rfl) ?_
  refine JO.pur rfl rfl rfl (Pur.fieldAddr rfl) ?_
  refine JO.pur rfl rfl rfl (Pur.load rfl (CellIn.blk rfl)) ?_
  refine JO.pur rfl rfl rfl (Pur.len rfl) ?_
  refine JO.pur rfl rfl rfl (Pur.geq rfl rfl) ?_
  refine JO.pur rfl rfl rfl (Pur.pickF rfl rfl) ?_
  refine JO.pur rfl rfl rfl (Pur.assign rfl) ?_
  refine JO.nil ?_
  refine J.setv (u' := .bool false) 10 rfl (congrArg Value.bool (decide_eq_false (by omega))) ?_
  refine J.condF rfl rfl ?_
  refine J.skip rfl ?_
  refine J.inBlock ?_
  refine J.seq rfl ?_
  refine J.region rfl ?_
  refine JO.pur rfl rfl rfl (Pur.move rfl) ?_
  refine JO.pur rfl rfl rfl (Pur.nilCheck rfl) ?_
  refine JO.pur rfl rfl rfl (Pur.fieldAddr rfl) ?_
  refine JO.pur rfl rfl rfl (Pur.load rfl (CellIn.blk rfl)) ?_
  refine JO.pur rfl rfl rfl (Pur.move rfl) ?_
  refine JO.pur rfl rfl rfl (Pur.idx rfl rfl rfl (by first | rfl | (simp; done) | omega | (rw [List.length_zip]; omega)) rfl (by omega)) ?_
  refine JO.pur rfl rfl rfl (Pur.loadA rfl rfl rfl (CellsIn.el rfl (msg_get hk))) ?_
  refine JO.setv (u' := msgV (msg g k)) 28 rfl rfl ?_
  refine JO.eff rfl rfl rfl (Eff.alloc (cs := [_, _, _, _, _]) rfl) ?_
  rintro _ _ ⟨b5, rfl, rfl⟩
  refine JO.effN rfl rfl (Eff.storeBA (cs' := [_, _, _, _, _]) rfl rfl (by rfl) (by rfl) (by rfl)) ?_
  rintro _ _ ⟨rfl, rfl⟩
  refine JO.nil ?_
  refine J.seq rfl ?_
  refine J.region rfl ?_
  refine JO.pur rfl rfl rfl (Pur.move rfl) ?_
  refine JO.pur rfl rfl rfl (Pur.move rfl) ?_
  refine JO.pur rfl rfl rfl (Pur.nilCheck rfl) ?_
  refine JO.pur rfl rfl rfl (Pur.fieldAddr rfl) ?_
  refine JO.pur rfl rfl rfl (Pur.load rfl (CellIn.blk rfl)) ?_
  refine JO.pur rfl rfl rfl (Pur.move rfl) ?_
  refine JO.pur rfl rfl rfl (Pur.move rfl) ?_
  refine JO.pur rfl rfl rfl (Pur.add rfl rfl (wr64 (by omega))) ?_
  refine JO.eff rfl rfl rfl (Eff.call rfl (delM (i' := k) (j' := k + 1) rfl rfl rfl (by omega) (by omega) (by omega))) ?_
  rintro _ _ ⟨_, ⟨rfl, rfl⟩, rfl⟩
  rw [show g.fly.take k ++ g.fly.drop (k + 1) = (takeM g k).fly from rfl]
  refine JO.setv (u' := .slice af (takeM g k).fly.length cf) 37 rfl (by rw [show (takeM g k).fly.length = k + (g.fly.length - (k + 1)) by show (g.fly.take k ++ g.fly.drop (k + 1)).length = _; rw [List.length_append, List.length_take, List.length_drop]; omega]) ?_
  refine JO.pur rfl rfl rfl (Pur.nilCheck rfl) ?_
  refine JO.pur rfl rfl rfl (Pur.fieldAddr rfl) ?_
  refine JO.effN rfl rfl (Eff.storeB rfl rfl rfl (.tail (.tail (.tail (.tail .head))))) ?_
  rintro _ _ ⟨rfl, rfl⟩
  refine JO.nil ?_
  refine J.seq rfl ?_
  refine J.mask0 (n := 8) [] rfl Try.mixed rfl (by kernel_rfl) ?_
  refine JM.take 0 (fun _ h => h) rfl (by kernel_rfl) rfl rfl rfl (m' := 1) rfl (Pur.move rfl) ?_
  refine JM.take 1 (fun _ h => h) rfl (by kernel_rfl) rfl rfl rfl (m' := 3) rfl (Pur.nilCheck rfl) ?_
  refine JM.take 2 (fun _ h => h) rfl (by kernel_rfl) rfl rfl rfl (m' := 7) rfl (Pur.fieldAddr rfl) ?_
  refine JM.take 3 (fun _ h => h) rfl (by kernel_rfl) rfl rfl rfl (m' := 15) rfl (Pur.load rfl (CellIn.blk rfl)) ?_
  refine JM.take 4 (fun _ h => h) rfl (by kernel_rfl) rfl rfl rfl (m' := 31) rfl (Pur.fieldAddr rfl) ?_
  refine JM.take 5 (fun _ h => h) rfl (by kernel_rfl) rfl rfl rfl (m' := 63) rfl (Pur.load rfl (CellIn.blk rfl)) ?_
  refine JM.take 6 (fun _ h => h) rfl (by kernel_rfl) rfl rfl rfl (m' := 127) rfl (Pur.idx rfl rfl rfl (by first | rfl | (simp; done) | omega | (rw [List.length_zip]; omega)) rfl (by rw [List.length_zip]; omega)) ?_
  refine JM.take 7 (fun _ h => h) rfl (by kernel_rfl) rfl rfl rfl (m' := 255) rfl (Pur.assign rfl) ?_
  refine JM.done rfl ?_
  refine J.seq rfl ?_
  refine J.block rfl ?_
  refine J.seq rfl ?_
  refine J.region rfl ?_
  refine JO.pur rfl rfl rfl (Pur.move rfl) ?_
  refine JO.pur rfl rfl rfl (Pur.nilCheck rfl) ?_
  refine JO.pur rfl rfl rfl (Pur.fieldAddr rfl) ?_
  refine JO.pur rfl rfl rfl (Pur.load rfl (CellIn.blk rfl)) ?_
  refine JO.pur rfl rfl rfl (Pur.eqlT rfl rfl) ?_
  refine JO.pur rfl rfl rfl (Pur.assign rfl) ?_
  refine JO.nil ?_
  refine J.setv (u' := .bool true) 53 rfl (congrArg Value.bool ((by rw [hkd]; decide))) ?_
  refine J.condT rfl rfl ?_
  refine J.seq rfl ?_
  refine J.imp (fun h s => mp_take hbi (mem_get hto) (SubC.out (M := star (List.zipWith mpA bs g.ms) :: blk b5 (.cells #[.int .i64 ((msg g k).fr : Int), .int .i64 ((msg g k).to : Int), .int .i64 (msg g k).v, .bool (msg g k).up, .int .i64 ((msg g k).rd : Int)] 84) :: blk p (gC g.kind g.op g.root am g.ms.length cm af (takeM g k).fly.length cf g.sent) :: sl memE am cm (g.ms.zip bs) :: sl msgE af cf (takeM g k).fly :: L) h s)) ?_
  refine J.mask0 (n := 9) [8] rfl Try.mixed rfl (by kernel_rfl) ?_
  refine JM.take 0 (fun _ h => h) rfl (by kernel_rfl) rfl rfl rfl (m' := 1) rfl (Pur.move rfl) ?_
  refine JM.take 1 (fun _ h => h) rfl (by kernel_rfl) rfl rfl rfl (m' := 3) rfl (Pur.nilCheck rfl) ?_
  refine JM.take 2 (fun _ h => h) rfl (by kernel_rfl) rfl rfl rfl (m' := 7) rfl (Pur.fieldAddr rfl) ?_
  refine JM.take 3 (fun _ h => h) rfl (by kernel_rfl) rfl rfl rfl (m' := 15) rfl (Pur.load rfl (CellIn.el rfl hzm rfl)) ?_
  refine JM.setv (u' := .map (some b)) 62 rfl rfl ?_
  refine JM.take 4 (fun _ h => h) rfl (by kernel_rfl) rfl rfl rfl (m' := 31) rfl (Pur.fieldAddr rfl) ?_
  refine JM.take 5 (fun _ h => h) rfl (by kernel_rfl) rfl rfl rfl (m' := 63) rfl (Pur.load rfl (CellIn.blk rfl)) ?_
  refine JM.setv (u' := .int .i64 ((msg g k).rd : Int)) 64 rfl rfl ?_
  refine JM.take 6 (fun _ h => h) rfl (by kernel_rfl) rfl rfl rfl (m' := 127) rfl (Pur.fieldAddr rfl) ?_
  refine JM.take 7 (fun _ h => h) rfl (by kernel_rfl) rfl rfl rfl (m' := 255) rfl (Pur.load rfl (CellIn.blk rfl)) ?_
  refine JM.setv (u' := .int .i64 (msg g k).v) 66 rfl rfl ?_
  refine JM.one (i := 8) (by kernel_rfl) ?_
  refine JMi.effN rfl rfl rfl (m' := 511) rfl (Eff.mapUpdate (K := intK) rfl rfl rfl) ?_
  rintro _ _ ⟨rfl, rfl⟩
  refine ⟨.inl (by simp), ?_⟩
  rw [kvs_set]
  rw [show setI (mem g (msg g k).to).got ((msg g k).rd : Int) (msg g k).v = (gotM g (msg g k)).got from rfl]
  refine JM.done rfl ?_
  refine J.region rfl ?_
  refine JO.pur rfl rfl rfl (Pur.move rfl) ?_
  refine JO.pur rfl rfl rfl (Pur.fieldAddr rfl) ?_
  refine JO.pur rfl rfl rfl (Pur.load rfl (CellIn.blk rfl)) ?_
  refine JO.imp (M := GB p am cm bs (setM (takeM g k) (msg g k).to (gotM g (msg g k))) :: L) (fun h s => by have s2 : Sat h (mp intK b (kvs (gotM g (msg g k)).got) :: zwBut mpA (msg g k).to bs g.ms :: blk p (gC g.kind g.op g.root am g.ms.length cm af (takeM g k).fly.length cf g.sent) :: sl memE am cm (g.ms.zip bs) :: sl msgE af cf (takeM g k).fly :: L) := SubC.out h s; have s3 := mp_put (m' := gotM g (msg g k)) hbi (mem_get hto) s2; have s4 : Sat h (blk p (gC g.kind g.op g.root am g.ms.length cm af (takeM g k).fly.length cf g.sent) :: sl memE am cm ((g.ms.set (msg g k).to (gotM g (msg g k))).zip bs) :: sl msgE af cf (takeM g k).fly :: star (List.zipWith mpA bs (g.ms.set (msg g k).to (gotM g (msg g k)))) :: L) := (SubC.out (M := sl memE am cm (g.ms.zip bs) :: blk p (gC g.kind g.op g.root am g.ms.length cm af (takeM g k).fly.length cf g.sent) :: sl msgE af cf (takeM g k).fly :: star (List.zipWith mpA bs (g.ms.set (msg g k).to (gotM g (msg g k)))) :: L) h s3).cons_imp (fun k' hk' => sl_same hzs1 hzs2 hk') (fun k' hk' => hk') |> SubC.out h; have e9 : g.ms.length = (g.ms.set (msg g k).to (gotM g (msg g k))).length := (by simp); rw [e9] at s4; exact GB_mk (g := setM (takeM g k) (msg g k).to (gotM g (msg g k))) (by rw [set_len]; exact hb) s4) ?_
  refine JO.eff rfl rfl rfl (Eff.call rfl (scan_ok (g := setM (takeM g k) (msg g k).to (gotM g (msg g k))) (i := (msg g k).to) (N := g.ms.length) hw3 hto (by rw [set_len]; rfl) ho (by show (g.fly.take k ++ g.fly.drop (k + 1)).length + 4 ≤ _; rw [List.length_append, List.length_take, List.length_drop]; omega))) ?_
  rintro _ _ ⟨rfl, rfl⟩
  refine JO.nil ?_
  refine J.inBlock ?_
  refine J.seq rfl ?_
  refine J.region rfl ?_
  refine JO.pur rfl rfl rfl (Pur.assign rfl) ?_
  refine JO.nil ?_
  refine J.ret rfl rfl ?_
  refine ⟨_, _, ⟨rfl, rfl⟩, rfl, fun h s => ?_⟩
  show Sat h (GB p am cm bs (scan 4 (setM (takeM g k) (msg g k).to (gotM g (msg g k))) (msg g k).to) :: L)
  exact SubC.out h s

end Go.Proofs.Ytoikjjpleonllaa
