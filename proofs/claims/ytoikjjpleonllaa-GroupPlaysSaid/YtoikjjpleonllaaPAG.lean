/-
  A part of the proof of the claim that this folder bears.
-/
import Derived.Test.YtoikjjpleonllaaPAF
/- The text G11. -/
set_option linter.unusedVariables false
set_option linter.unusedSimpArgs false
set_option maxRecDepth 10000
namespace Go.Proofs.Ytoikjjpleonllaa
open Go Go.KK Gr

theorem beginG_ok {L : List Asn} {p : Nat} {am : Option Addr} {cm : Nat} {bs : List Nat} {g : Gs} (hw : wf g) (hk : ¬ g.kind = sScan → 0 ≤ g.root ∧ g.root < (g.ms.length : Int)) (ho : okOp g.op) (hf : g.fly.length ≤ 1000) :
    CallS Try.prog 44 [.pointer (some ⟨p, 0, none⟩)].toArray (GB p am cm bs g :: L) (fun v M => v = .tuple #[] ∧ M = GB p am cm bs (beginG g) :: L) := by
  have hn8 := hw.2.1
  have hn1 := hw.1
  refine CallS.ent ?_
  refine CallS.enter Try.func44 rfl rfl rfl rfl rfl ?_
  refine GB_open fun af cf hb => ?_
  refine J.seq rfl ?_
  refine J.region rfl ?_
  refine JO.pur rfl rfl rfl (Pur.move rfl) ?_
  refine JO.pur rfl rfl rfl (Pur.nilCheck rfl) ?_
  refine JO.pur rfl rfl rfl (Pur.fieldAddr rfl) ?_
  refine JO.pur rfl rfl rfl (Pur.load rfl (CellIn.blk rfl)) ?_
  refine JO.nil ?_
  refine J.block rfl ?_
  refine J.seq rfl ?_
  refine J.region rfl ?_
  refine JO.pur rfl rfl rfl (Pur.eqlT rfl rfl) ?_
  refine JO.pur rfl rfl rfl (Pur.assign rfl) ?_
  refine JO.nil ?_
  refine J.splitB 33 rfl (fun h33 => ?_) (fun h33 => ?_)
  · try simp only [bSimp, bSimp2, ne_eq] at h33
    have hkc : g.kind = sCast := h33
    obtain ⟨hr0, hr1⟩ := hk (by rw [hkc]; decide)
    have hrn : rt g < g.ms.length := by unfold rt; omega
    obtain ⟨b, hbi⟩ : ∃ b, bs[rt g]? = some b := ⟨_, List.getElem?_eq_getElem (by omega)⟩
    have hzm := zip_get (mem_get hrn) hbi
    refine J.condT rfl rfl ?_
    refine J.mask0 (n := 17) [16] rfl Try.mixed rfl (by kernel_rfl) ?_
    refine JM.take 0 (fun _ h => h) rfl (by kernel_rfl) rfl rfl rfl (m' := 1) rfl (Pur.move rfl) ?_
    refine JM.take 1 (fun _ h => h) rfl (by kernel_rfl) rfl rfl rfl (m' := 3) rfl (Pur.move rfl) ?_
    refine JM.take 2 (fun _ h => h) rfl (by kernel_rfl) rfl rfl rfl (m' := 7) rfl (Pur.nilCheck rfl) ?_
    refine JM.take 3 (fun _ h => h) rfl (by kernel_rfl) rfl rfl rfl (m' := 15) rfl (Pur.fieldAddr rfl) ?_
    refine JM.take 4 (fun _ h => h) rfl (by kernel_rfl) rfl rfl rfl (m' := 31) rfl (Pur.load rfl (CellIn.blk rfl)) ?_
    refine JM.setv (u' := .int .i64 ((rt g : Nat) : Int)) 39 rfl (congrArg (Value.int .i64) (by unfold rt; exact (Int.toNat_of_nonneg hr0).symm)) ?_
    refine JM.takeF 5 (.inr (fun _ h => h)) rfl (by kernel_rfl) rfl rfl rfl (m' := 63) rfl (Pur.move rfl) ?_
    refine JM.takeF 6 (.inr (fun _ h => h)) rfl (by kernel_rfl) rfl rfl rfl (m' := 127) rfl (Pur.nilCheck rfl) ?_
    refine JM.takeF 7 (.inr (fun _ h => h)) rfl (by kernel_rfl) rfl rfl rfl (m' := 255) rfl (Pur.fieldAddr rfl) ?_
    refine JM.take 8 (fun _ h => h) rfl (by kernel_rfl) rfl rfl rfl (m' := 511) rfl (Pur.load rfl (CellIn.blk rfl)) ?_
    refine JM.takeF 9 (.inr (fun _ h => h)) rfl (by kernel_rfl) rfl rfl rfl (m' := 1023) rfl (Pur.move rfl) ?_
    refine JM.takeF 10 (.inr (fun _ h => h)) rfl (by kernel_rfl) rfl rfl rfl (m' := 2047) rfl (Pur.nilCheck rfl) ?_
    refine JM.takeF 11 (.inr (fun _ h => h)) rfl (by kernel_rfl) rfl rfl rfl (m' := 4095) rfl (Pur.fieldAddr rfl) ?_
    refine JM.take 12 (fun _ h => h) rfl (by kernel_rfl) rfl rfl rfl (m' := 8191) rfl (Pur.load rfl (CellIn.blk rfl)) ?_
    refine JM.setv (u' := .int .i64 ((rt g : Nat) : Int)) 47 rfl (congrArg (Value.int .i64) (by unfold rt; exact (Int.toNat_of_nonneg hr0).symm)) ?_
    refine JM.take 13 (fun _ h => h) rfl (by kernel_rfl) rfl rfl rfl (m' := 16383) rfl (Pur.idx rfl rfl rfl (by first | rfl | (simp; done) | omega | (rw [List.length_zip]; omega) | (rw [List.length_zip, List.length_set]; omega) | (rw [natI_len]; omega)) rfl (by first | (rw [List.length_zip]; omega) | (rw [List.length_zip, List.length_set]; omega))) ?_
    refine JM.take 14 (fun _ h => h) rfl (by kernel_rfl) rfl rfl rfl (m' := 32767) rfl (Pur.fieldAddr rfl) ?_
    refine JM.take 15 (fun _ h => h) rfl (by kernel_rfl) rfl rfl rfl (m' := 65535) rfl (Pur.load rfl (CellIn.el rfl hzm rfl)) ?_
    refine JM.setv (u' := .int .i64 (mem g (rt g)).v) 50 rfl rfl ?_
    refine JM.imp (M := GB p am cm bs g :: L) (fun h s => GB_mk (g := g) (af := af) (cf := cf) hb (SubC.out (M := blk p (gC g.kind g.op g.root am g.ms.length cm af g.fly.length cf g.sent) :: sl memE am cm (g.ms.zip bs) :: sl msgE af cf g.fly :: star (List.zipWith mpA bs g.ms) :: L) h s)) ?_
    refine JM.one (i := 16) (by kernel_rfl) ?_
    refine JMi.eff rfl rfl rfl rfl (m' := 131071) rfl (Eff.call rfl (castG_ok (g := g) (i := rt g) (z := (mem g (rt g)).v) hw hr0 hr1 hrn (by omega))) ?_
    rintro _ _ ⟨rfl, rfl⟩
    refine ⟨.inl (by simp), ?_⟩
    refine JM.done rfl ?_
    refine J.inBlock ?_
    refine J.fin rfl ?_
    refine ⟨_, _, ⟨rfl, rfl⟩, rfl, fun h s => ?_⟩
    unfold beginG
    first
    | (rw [if_pos hkc]; exact SubC.out h s)
    | (rw [if_neg hkc, if_pos hks]; rw [hqe] at s; exact SubC.out h s)
    | (rw [if_neg hkc, if_neg hks, ← hX]; exact (fun h s => GB_mk (g := X) (af := af) (cf := cf) hb (SubC.out (M := blk p (gC X.kind X.op X.root am X.ms.length cm af X.fly.length cf X.sent) :: sl memE am cm (X.ms.zip bs) :: sl msgE af cf X.fly :: star (List.zipWith mpA bs X.ms) :: L) h s)) h s)
  · try simp only [bSimp, bSimp2, ne_eq] at h33
    have hkc : ¬ g.kind = sCast := h33
    refine J.condF rfl rfl ?_
    refine J.seq rfl ?_
    refine J.region rfl ?_
    refine JO.pur rfl rfl rfl (Pur.eqlT rfl rfl) ?_
    refine JO.pur rfl rfl rfl (Pur.assign rfl) ?_
    refine JO.nil ?_
    refine J.splitB 52 rfl (fun h52 => ?_) (fun h52 => ?_)
    · try simp only [bSimp, bSimp2, ne_eq] at h52
      have hks : g.kind = sScan := h52
      refine J.condT rfl rfl ?_
      refine J.seq rfl ?_
      refine J.region rfl ?_
      refine JO.pur rfl rfl rfl (Pur.move rfl) ?_
      refine JO.pur rfl rfl rfl (Pur.nilCheck rfl) ?_
      refine JO.pur rfl rfl rfl (Pur.fieldAddr rfl) ?_
      refine JO.pur rfl rfl rfl (Pur.load rfl (CellIn.blk rfl)) ?_
      refine JO.pur rfl rfl rfl (Pur.len rfl) ?_
      refine JO.pur rfl rfl rfl (Pur.move rfl) ?_
      refine JO.nil ?_
      refine J.block rfl ?_
      refine J.loopF (ι := Nat) (fun q => q ≤ g.ms.length) (fun q => [(59, .int .i64 (q : Int))]) [(0, _), (58, _)] (fun q => GB p am cm bs (begS g q) :: L) (fun q => g.ms.length - q) 0 rfl (.cons rfl rfl (.cons rfl rfl .nil)) (.cons rfl rfl .nil) (fun h s => GB_mk (g := g) (af := af) (cf := cf) hb (SubC.out (M := blk p (gC g.kind g.op g.root am g.ms.length cm af g.fly.length cf g.sent) :: sl memE am cm (g.ms.zip bs) :: sl msgE af cf g.fly :: star (List.zipWith mpA bs g.ms) :: L) h s)) (Nat.zero_le _) ?_
      rintro q hq ihq
      try dsimp only
      refine J.seq rfl ?_
      refine J.region rfl ?_
      refine JO.pur rfl rfl rfl (Pur.lss rfl rfl) ?_
      refine JO.nil ?_
      refine J.seq rfl ?_
      refine J.splitB 60 rfl (fun h60 => ?_) (fun h60 => ?_)
      · try simp only [bSimp, bSimp2, ne_eq] at h60
        have hql : q < g.ms.length := by omega
        obtain ⟨k1, k2, k3, k4, k5, k6⟩ := begS_keep hw q hq
        have w2 := wf_send k1 (p := q) (by omega)
        have f2 := send_fly (begS g q) q
        have o2 := send_op (begS g q) q
        refine J.condT rfl rfl ?_
        refine J.skip rfl ?_
        refine J.seq rfl ?_
        refine J.block rfl ?_
        refine J.seq rfl ?_
        refine J.region rfl ?_
        refine JO.pur rfl rfl rfl (Pur.move rfl) ?_
        refine JO.pur rfl rfl rfl (Pur.assign rfl) ?_
        refine JO.nil ?_
        refine J.seq rfl ?_
        refine J.region rfl ?_
        refine JO.pur rfl rfl rfl (Pur.move rfl) ?_
        refine JO.pur rfl rfl rfl (Pur.move rfl) ?_
        refine JO.eff rfl rfl rfl (Eff.call rfl (send_ok (g := begS g q) (i := q) k1 (by omega) (by omega))) ?_
        rintro _ _ ⟨rfl, rfl⟩
        refine JO.nil ?_
        refine J.region rfl ?_
        refine JO.pur rfl rfl rfl (Pur.move rfl) ?_
        refine JO.pur rfl rfl rfl (Pur.move rfl) ?_
        refine JO.eff rfl rfl rfl (Eff.call rfl (scan_ok (g := send (begS g q) q) (i := q) (N := g.ms.length) w2 hql (by rw [send_len]; exact k2.symm) (by rw [o2.1, k4]; exact ho) (by omega))) ?_
        rintro _ _ ⟨rfl, rfl⟩
        refine JO.nil ?_
        refine J.inBlock ?_
        refine J.region rfl ?_
        refine JO.pur rfl rfl rfl (Pur.add rfl rfl (wr64 (by omega))) ?_
        refine JO.pur rfl rfl rfl (Pur.move rfl) ?_
        refine JO.nil ?_
        exact J.weaken (.cons rfl (congrArg (Value.int .i64) (by first | rfl | (dsimp only; omega))) (.cons rfl rfl (.cons rfl rfl .nil))) (fun h s => by show Sat h (GB p am cm bs (scan 4 (send (begS g q) q) q) :: L); exact SubC.out h s) (ihq (q + 1) (by omega) (by omega))
      · try simp only [bSimp, bSimp2, ne_eq] at h60
        have hqe : q = g.ms.length := by omega
        refine J.condF rfl rfl ?_
        refine J.exit rfl rfl ?_
        refine J.inBlock ?_
        refine J.fin rfl ?_
        refine ⟨_, _, ⟨rfl, rfl⟩, rfl, fun h s => ?_⟩
        unfold beginG
        first
        | (rw [if_pos hkc]; exact SubC.out h s)
        | (rw [if_neg hkc, if_pos hks]; rw [hqe] at s; exact SubC.out h s)
        | (rw [if_neg hkc, if_neg hks, ← hX]; exact (fun h s => GB_mk (g := X) (af := af) (cf := cf) hb (SubC.out (M := blk p (gC X.kind X.op X.root am X.ms.length cm af X.fly.length cf X.sent) :: sl memE am cm (X.ms.zip bs) :: sl msgE af cf X.fly :: star (List.zipWith mpA bs X.ms) :: L) h s)) h s)
    · try simp only [bSimp, bSimp2, ne_eq] at h52
      have hks : ¬ g.kind = sScan := h52
      obtain ⟨hr0', hr1'⟩ := hk hks
      refine J.condF rfl rfl ?_
      refine J.seq rfl ?_
      refine J.region rfl ?_
      refine JO.pur rfl rfl rfl (Pur.move rfl) ?_
      refine JO.pur rfl rfl rfl (Pur.nilCheck rfl) ?_
      refine JO.pur rfl rfl rfl (Pur.fieldAddr rfl) ?_
      refine JO.pur rfl rfl rfl (Pur.load rfl (CellIn.blk rfl)) ?_
      refine JO.pur rfl rfl rfl (Pur.len rfl) ?_
      refine JO.pur rfl rfl rfl (Pur.move rfl) ?_
      refine JO.nil ?_
      refine J.block rfl ?_
      refine J.loopF (ι := Nat) (fun q => q ≤ g.ms.length) (fun q => [(13, .int .i64 (q : Int))]) [(0, _), (12, _)] (fun q => GB p am cm bs (begT g q) :: L) (fun q => g.ms.length - q) 0 rfl (.cons rfl rfl (.cons rfl rfl .nil)) (.cons rfl rfl .nil) (fun h s => GB_mk (g := g) (af := af) (cf := cf) hb (SubC.out (M := blk p (gC g.kind g.op g.root am g.ms.length cm af g.fly.length cf g.sent) :: sl memE am cm (g.ms.zip bs) :: sl msgE af cf g.fly :: star (List.zipWith mpA bs g.ms) :: L) h s)) (Nat.zero_le _) ?_
      rintro q hq ihq
      try dsimp only
      obtain ⟨k1, k2, k3⟩ := begT_keep hw q hq
      obtain ⟨X, hX⟩ : ∃ X, X = begT g q := ⟨_, rfl⟩
      rw [← hX] at k1 k2 k3 ⊢
      obtain ⟨s1, s2, s3, s4⟩ := k2
      have hr0 : 0 ≤ X.root := by rw [s3]; exact hr0'
      have hr1 : X.root < (X.ms.length : Int) := by rw [s3, s1]; exact hr1'
      have hoX : okOp X.op := by rw [s4]; exact ho
      have hrn : rt X < X.ms.length := by unfold rt; omega
      clear hb
      refine GB_open fun af cf hb => ?_
      refine J.seq rfl ?_
      refine J.region rfl ?_
      refine JO.pur rfl rfl rfl (Pur.lss rfl rfl) ?_
      refine JO.nil ?_
      refine J.seq rfl ?_
      refine J.splitB 14 rfl (fun h14 => ?_) (fun h14 => ?_)
      · try simp only [bSimp, bSimp2, ne_eq] at h14
        have hql : q < g.ms.length := by omega
        refine J.condT rfl rfl ?_
        refine J.skip rfl ?_
        refine J.seq rfl ?_
        refine J.block rfl ?_
        refine J.seq rfl ?_
        refine J.region rfl ?_
        refine JO.pur rfl rfl rfl (Pur.move rfl) ?_
        refine JO.pur rfl rfl rfl (Pur.assign rfl) ?_
        refine JO.nil ?_
        refine J.seq rfl ?_
        refine J.mask0 (n := 13) [10] rfl Try.mixed rfl (by kernel_rfl) ?_
        refine JM.takeF 0 (.inr (fun _ h => h)) rfl (by kernel_rfl) rfl rfl rfl (m' := 1) rfl (Pur.move rfl) ?_
        refine JM.take 1 (fun _ h => h) rfl (by kernel_rfl) rfl rfl rfl (m' := 3) rfl (Pur.nilCheck rfl) ?_
        refine JM.take 2 (fun _ h => h) rfl (by kernel_rfl) rfl rfl rfl (m' := 7) rfl (Pur.fieldAddr rfl) ?_
        refine JM.take 3 (fun _ h => h) rfl (by kernel_rfl) rfl rfl rfl (m' := 15) rfl (Pur.load rfl (CellIn.blk rfl)) ?_
        refine JM.take 4 (fun _ h => h) rfl (by kernel_rfl) rfl rfl rfl (m' := 31) rfl (Pur.len rfl) ?_
        refine JM.take 5 (fun _ h => h) rfl (by kernel_rfl) rfl rfl rfl (m' := 63) rfl (Pur.move rfl) ?_
        refine JM.take 6 (fun _ h => h) rfl (by kernel_rfl) rfl rfl rfl (m' := 127) rfl (Pur.nilCheck rfl) ?_
        refine JM.take 7 (fun _ h => h) rfl (by kernel_rfl) rfl rfl rfl (m' := 255) rfl (Pur.fieldAddr rfl) ?_
        refine JM.take 8 (fun _ h => h) rfl (by kernel_rfl) rfl rfl rfl (m' := 511) rfl (Pur.load rfl (CellIn.blk rfl)) ?_
        refine JM.setv (u' := .int .i64 ((rt X : Nat) : Int)) 24 rfl (congrArg (Value.int .i64) (by unfold rt; exact (Int.toNat_of_nonneg hr0).symm)) ?_
        refine JM.take 9 (fun _ h => h) rfl (by kernel_rfl) rfl rfl rfl (m' := 1023) rfl (Pur.move rfl) ?_
        refine JM.one (i := 10) (by kernel_rfl) ?_
        refine JMi.eff rfl rfl rfl rfl (m' := 2047) rfl (Eff.call rfl (children_ok (n := X.ms.length) (root := rt X) (p := q) (by omega) (by omega) (by omega))) ?_
        rintro _ _ ⟨a26, c26, rfl, rfl⟩
        refine ⟨.inl (by simp), ?_⟩
        refine JM.takeF 11 (.inl (by kernel_rfl)) rfl (by kernel_rfl) rfl rfl rfl (m' := 4095) rfl (Pur.len rfl) ?_
        refine JM.takeF 12 (.inl (by kernel_rfl)) rfl (by kernel_rfl) rfl rfl rfl (m' := 8191) rfl (Pur.eqlI rfl rfl) ?_
        refine JM.done rfl ?_
        refine J.splitB 28 rfl (fun h28 => ?_) (fun h28 => ?_)
        · try simp only [bSimp, bSimp2, ne_eq] at h28
          have hnl := natI_len (chP X.ms.length (rt X) q)
          have hce : chG X q = [] := List.eq_nil_of_length_eq_zero (show (chP X.ms.length (rt X) q).length = 0 by omega)
          have hst : begT g (q + 1) = combG X q := by unfold begT; rw [← hX, if_pos hce]
          refine J.condT rfl rfl ?_
          refine J.region rfl ?_
          refine JO.pur rfl rfl rfl (Pur.move rfl) ?_
          refine JO.pur rfl rfl rfl (Pur.move rfl) ?_
          refine JO.imp (M := GB p am cm bs X :: L) (fun h s => GB_mk (af := af) (cf := cf) hb (SubC.out (M := blk p (gC X.kind X.op X.root am X.ms.length cm af X.fly.length cf X.sent) :: sl memE am cm (X.ms.zip bs) :: sl msgE af cf X.fly :: star (List.zipWith mpA bs X.ms) :: L) h s)) ?_
          refine JO.eff rfl rfl rfl (Eff.call rfl (combG_ok (g := X) (i := q) k1 hr0 hr1 (by omega) hoX (by omega))) ?_
          rintro _ _ ⟨rfl, rfl⟩
          refine JO.nil ?_
          refine J.inBlock ?_
          refine J.region rfl ?_
          refine JO.pur rfl rfl rfl (Pur.add rfl rfl (wr64 (by omega))) ?_
          refine JO.pur rfl rfl rfl (Pur.move rfl) ?_
          refine JO.nil ?_
          exact J.weaken (.cons rfl (congrArg (Value.int .i64) (by first | rfl | (dsimp only; omega))) (.cons rfl rfl (.cons rfl rfl .nil))) (fun h s => by rw [hst]; exact SubC.out h s) (ihq (q + 1) (by omega) (by omega))
        · try simp only [bSimp, bSimp2, ne_eq] at h28
          have hnl := natI_len (chP X.ms.length (rt X) q)
          have hce : ¬ chG X q = [] := fun e => by have e2 : (chP X.ms.length (rt X) q) = [] := e; exact h28 (by rw [e2]; rfl)
          have hst : begT g (q + 1) = X := by unfold begT; rw [← hX, if_neg hce]
          refine J.condF rfl rfl ?_
          refine J.skip rfl ?_
          refine J.inBlock ?_
          refine J.region rfl ?_
          refine JO.pur rfl rfl rfl (Pur.add rfl rfl (wr64 (by omega))) ?_
          refine JO.pur rfl rfl rfl (Pur.move rfl) ?_
          refine JO.nil ?_
          exact J.weaken (.cons rfl (congrArg (Value.int .i64) (by first | rfl | (dsimp only; omega))) (.cons rfl rfl (.cons rfl rfl .nil))) (fun h s => by rw [hst]; exact (fun h s => GB_mk (g := X) (af := af) (cf := cf) hb (SubC.out (M := blk p (gC X.kind X.op X.root am X.ms.length cm af X.fly.length cf X.sent) :: sl memE am cm (X.ms.zip bs) :: sl msgE af cf X.fly :: star (List.zipWith mpA bs X.ms) :: L) h s)) h s) (ihq (q + 1) (by omega) (by omega))
      · try simp only [bSimp, bSimp2, ne_eq] at h14
        have hqe : q = g.ms.length := by omega
        subst hqe
        refine J.condF rfl rfl ?_
        refine J.exit rfl rfl ?_
        refine J.inBlock ?_
        refine J.fin rfl ?_
        refine ⟨_, _, ⟨rfl, rfl⟩, rfl, fun h s => ?_⟩
        unfold beginG
        first
        | (rw [if_pos hkc]; exact SubC.out h s)
        | (rw [if_neg hkc, if_pos hks]; rw [hqe] at s; exact SubC.out h s)
        | (rw [if_neg hkc, if_neg hks, ← hX]; exact (fun h s => GB_mk (g := X) (af := af) (cf := cf) hb (SubC.out (M := blk p (gC X.kind X.op X.root am X.ms.length cm af X.fly.length cf X.sent) :: sl memE am cm (X.ms.zip bs) :: sl msgE af cf X.fly :: star (List.zipWith mpA bs X.ms) :: L) h s)) h s)

theorem deliverG_ok {L : List Asn} {p : Nat} {am : Option Addr} {cm : Nat} {bs : List Nat} {g : Gs} {k : Nat} (hw : wf g) (hk : k < g.fly.length) (hrt : ¬ g.kind = sScan → 0 ≤ g.root ∧ g.root < (g.ms.length : Int)) (ho : okOp g.op) (hf : g.fly.length ≤ 5000) :
    CallS Try.prog 14 [.pointer (some ⟨p, 0, none⟩), .int .i64 (k : Int)].toArray (GB p am cm bs g :: L) (fun v M => v = .int .i64 0 ∧ M = GB p am cm bs (dlvG g k) :: L) := by
  have hn8 := hw.2.1
  have hn1 := hw.1
  have hmm := hw.2.2.2 _ (List.mem_of_getElem? (msg_get hk))
  have hto := hmm.1
  have hrd := hw.2.2.1 _ (mem_mem hto)
  have hw3 : wf (setM (takeM g k) (msg g k).to (gotM g (msg g k))) := wf_set (wf_take hw k) hrd
  have hft : (takeM g k).fly.length ≤ 5000 := by show (g.fly.take k ++ g.fly.drop (k + 1)).length ≤ _; rw [List.length_append, List.length_take, List.length_drop]; omega
  refine CallS.ent ?_
  refine CallS.enter Try.func14 rfl rfl rfl rfl rfl ?_
  refine GB_open fun af cf hb => ?_
  obtain ⟨b, hbi⟩ : ∃ b, bs[(msg g k).to]? = some b := ⟨_, List.getElem?_eq_getElem (by omega)⟩
  have hzm := zip_get (mem_get hto) hbi
  have hzs1 : (g.ms.zip bs).length = ((g.ms.set (msg g k).to (gotM g (msg g k))).zip bs).length := by simp
  have hzs2 : memE.all (g.ms.zip bs) = memE.all ((g.ms.set (msg g k).to (gotM g (msg g k))).zip bs) := by rw [← zip_set hbi]; exact (all_set (E := memE) (y := (gotM g (msg g k), b)) hzm rfl).symm
  have hzu1 : (g.ms.zip bs).length = ((g.ms.set (msg g k).to (gotU g (msg g k))).zip bs).length := by simp
  have hzu2 : memE.all (g.ms.zip bs) = memE.all ((g.ms.set (msg g k).to (gotU g (msg g k))).zip bs) := by rw [← zip_set hbi]; exact (all_set (E := memE) (y := (gotU g (msg g k), b)) hzm rfl).symm
  refine J.seq rfl ?_
  refine J.region rfl ?_
  refine JO.pur rfl rfl rfl (Pur.assign rfl) ?_
  refine JO.nil ?_
  refine J.seq rfl ?_
  refine J.block rfl ?_
  refine J.seq rfl ?_
  refine J.region rfl ?_
  refine JO.pur rfl rfl rfl (Pur.move rfl) ?_
  refine JO.effR rfl rfl rfl (Eff.call rfl (none_ok)) ?_
  refine JO.pur rfl rfl rfl (Pur.assign rfl) ?_
  refine JO.nil ?_
  refine J.setv (u' := .bool false) 7 rfl (congrArg Value.bool (decide_eq_false (by omega))) ?_
  refine J.condF rfl rfl ?_
  refine J.seq rfl ?_
  refine J.region rfl ?_
  refine JO.pur rfl rfl rfl (Pur.move rfl) ?_
  refine JO.pur rfl rfl rfl (Pur.lss rfl rfl) ?_
  refine JO.pur rfl rfl rfl (Pur.move rfl) ?_
  refine JO.setv (u' := .bool false) 13 rfl (congrArg Value.bool (decide_eq_false (by omega))) ?_
  refine JO.pur rfl rfl rfl (Pur.move rfl) ?_
  refine JO.pur rfl rfl rfl (Pur.move rfl) ?_
  refine JO.pur rfl rfl rfl (Pur.nilCheck rfl) ?_
  refine JO.pur rfl rfl rfl (Pur.fieldAddr rfl) ?_
  refine JO.pur rfl rfl rfl (Pur.load rfl (CellIn.blk rfl)) ?_
  refine JO.pur rfl rfl rfl (Pur.len rfl) ?_
  refine JO.pur rfl rfl rfl (Pur.geq rfl rfl) ?_
  refine JO.pur rfl rfl rfl (Pur.pickF rfl rfl) ?_
  refine JO.pur rfl rfl rfl (Pur.assign rfl) ?_
  refine JO.nil ?_
  refine J.setv (u' := .bool false) 10 rfl (congrArg Value.bool (decide_eq_false (by omega))) ?_
  refine J.condF rfl rfl ?_
  refine J.skip rfl ?_
  refine J.inBlock ?_
  refine J.seq rfl ?_
  refine J.region rfl ?_
  refine JO.pur rfl rfl rfl (Pur.move rfl) ?_
  refine JO.pur rfl rfl rfl (Pur.nilCheck rfl) ?_
  refine JO.pur rfl rfl rfl (Pur.fieldAddr rfl) ?_
  refine JO.pur rfl rfl rfl (Pur.load rfl (CellIn.blk rfl)) ?_
  refine JO.pur rfl rfl rfl (Pur.move rfl) ?_
  refine JO.pur rfl rfl rfl (Pur.idx rfl rfl rfl (by first | rfl | (simp; done) | omega | (rw [List.length_zip]; omega) | (rw [List.length_zip, List.length_set]; omega) | (rw [natI_len]; omega)) rfl (by omega)) ?_
  refine JO.pur rfl rfl rfl (Pur.loadA rfl rfl rfl (CellsIn.el rfl (msg_get hk))) ?_
  refine JO.setv (u' := msgV (msg g k)) 28 rfl rfl ?_
  refine JO.eff rfl rfl rfl (Eff.alloc (cs := [_, _, _, _, _]) rfl) ?_
  rintro _ _ ⟨b5, rfl, rfl⟩
  refine JO.effN rfl rfl (Eff.storeBA (cs' := [_, _, _, _, _]) rfl rfl (by rfl) (by rfl) (by rfl)) ?_
  rintro _ _ ⟨rfl, rfl⟩
  refine JO.nil ?_
  refine J.seq rfl ?_
  refine J.region rfl ?_
  refine JO.pur rfl rfl rfl (Pur.move rfl) ?_
  refine JO.pur rfl rfl rfl (Pur.move rfl) ?_
  refine JO.pur rfl rfl rfl (Pur.nilCheck rfl) ?_
  refine JO.pur rfl rfl rfl (Pur.fieldAddr rfl) ?_
  refine JO.pur rfl rfl rfl (Pur.load rfl (CellIn.blk rfl)) ?_
  refine JO.pur rfl rfl rfl (Pur.move rfl) ?_
  refine JO.pur rfl rfl rfl (Pur.move rfl) ?_
  refine JO.pur rfl rfl rfl (Pur.add rfl rfl (wr64 (by omega))) ?_
  refine JO.eff rfl rfl rfl (Eff.call rfl (delM (i' := k) (j' := k + 1) rfl rfl rfl (by omega) (by omega) (by omega))) ?_
  rintro _ _ ⟨_, ⟨rfl, rfl⟩, rfl⟩
  rw [show g.fly.take k ++ g.fly.drop (k + 1) = (takeM g k).fly from rfl]
  refine JO.setv (u' := .slice af (takeM g k).fly.length cf) 37 rfl (by rw [show (takeM g k).fly.length = k + (g.fly.length - (k + 1)) by show (g.fly.take k ++ g.fly.drop (k + 1)).length = _; rw [List.length_append, List.length_take, List.length_drop]; omega]) ?_
  refine JO.pur rfl rfl rfl (Pur.nilCheck rfl) ?_
  refine JO.pur rfl rfl rfl (Pur.fieldAddr rfl) ?_
  refine JO.effN rfl rfl (Eff.storeB rfl rfl rfl (.tail (.tail (.tail (.tail .head))))) ?_
  rintro _ _ ⟨rfl, rfl⟩
  refine JO.nil ?_
  refine J.seq rfl ?_
  refine J.mask0 (n := 8) [] rfl Try.mixed rfl (by kernel_rfl) ?_
  refine JM.take 0 (fun _ h => h) rfl (by kernel_rfl) rfl rfl rfl (m' := 1) rfl (Pur.move rfl) ?_
  refine JM.take 1 (fun _ h => h) rfl (by kernel_rfl) rfl rfl rfl (m' := 3) rfl (Pur.nilCheck rfl) ?_
  refine JM.take 2 (fun _ h => h) rfl (by kernel_rfl) rfl rfl rfl (m' := 7) rfl (Pur.fieldAddr rfl) ?_
  refine JM.take 3 (fun _ h => h) rfl (by kernel_rfl) rfl rfl rfl (m' := 15) rfl (Pur.load rfl (CellIn.blk rfl)) ?_
  refine JM.take 4 (fun _ h => h) rfl (by kernel_rfl) rfl rfl rfl (m' := 31) rfl (Pur.fieldAddr rfl) ?_
  refine JM.take 5 (fun _ h => h) rfl (by kernel_rfl) rfl rfl rfl (m' := 63) rfl (Pur.load rfl (CellIn.blk rfl)) ?_
  refine JM.take 6 (fun _ h => h) rfl (by kernel_rfl) rfl rfl rfl (m' := 127) rfl (Pur.idx rfl rfl rfl (by first | rfl | (simp; done) | omega | (rw [List.length_zip]; omega) | (rw [List.length_zip, List.length_set]; omega) | (rw [natI_len]; omega)) rfl (by rw [List.length_zip]; omega)) ?_
  refine JM.take 7 (fun _ h => h) rfl (by kernel_rfl) rfl rfl rfl (m' := 255) rfl (Pur.assign rfl) ?_
  refine JM.done rfl ?_
  refine J.seq rfl ?_
  refine J.block rfl ?_
  refine J.seq rfl ?_
  refine J.region rfl ?_
  refine JO.pur rfl rfl rfl (Pur.move rfl) ?_
  refine JO.pur rfl rfl rfl (Pur.nilCheck rfl) ?_
  refine JO.pur rfl rfl rfl (Pur.fieldAddr rfl) ?_
  refine JO.pur rfl rfl rfl (Pur.load rfl (CellIn.blk rfl)) ?_
  refine JO.pur rfl rfl rfl (Pur.eqlT rfl rfl) ?_
  refine JO.pur rfl rfl rfl (Pur.assign rfl) ?_
  refine JO.nil ?_
  refine J.splitB 53 rfl (fun h53 => ?_) (fun h53 => ?_)
  · try simp only [bSimp, bSimp2, ne_eq] at h53
    have hkd : g.kind = sScan := h53
    refine J.condT rfl rfl ?_
    refine J.seq rfl ?_
    refine J.imp (fun h s => mp_take hbi (mem_get hto) (SubC.out (M := star (List.zipWith mpA bs g.ms) :: blk b5 (.cells #[.int .i64 ((msg g k).fr : Int), .int .i64 ((msg g k).to : Int), .int .i64 (msg g k).v, .bool (msg g k).up, .int .i64 ((msg g k).rd : Int)] 84) :: blk p (gC g.kind g.op g.root am g.ms.length cm af (takeM g k).fly.length cf g.sent) :: sl memE am cm (g.ms.zip bs) :: sl msgE af cf (takeM g k).fly :: L) h s)) ?_
    refine J.mask0 (n := 9) [8] rfl Try.mixed rfl (by kernel_rfl) ?_
    refine JM.take 0 (fun _ h => h) rfl (by kernel_rfl) rfl rfl rfl (m' := 1) rfl (Pur.move rfl) ?_
    refine JM.take 1 (fun _ h => h) rfl (by kernel_rfl) rfl rfl rfl (m' := 3) rfl (Pur.nilCheck rfl) ?_
    refine JM.take 2 (fun _ h => h) rfl (by kernel_rfl) rfl rfl rfl (m' := 7) rfl (Pur.fieldAddr rfl) ?_
    refine JM.take 3 (fun _ h => h) rfl (by kernel_rfl) rfl rfl rfl (m' := 15) rfl (Pur.load rfl (CellIn.el rfl hzm rfl)) ?_
    refine JM.setv (u' := .map (some b)) 62 rfl rfl ?_
    refine JM.take 4 (fun _ h => h) rfl (by kernel_rfl) rfl rfl rfl (m' := 31) rfl (Pur.fieldAddr rfl) ?_
    refine JM.take 5 (fun _ h => h) rfl (by kernel_rfl) rfl rfl rfl (m' := 63) rfl (Pur.load rfl (CellIn.blk rfl)) ?_
    refine JM.setv (u' := .int .i64 ((msg g k).rd : Int)) 64 rfl rfl ?_
    refine JM.take 6 (fun _ h => h) rfl (by kernel_rfl) rfl rfl rfl (m' := 127) rfl (Pur.fieldAddr rfl) ?_
    refine JM.take 7 (fun _ h => h) rfl (by kernel_rfl) rfl rfl rfl (m' := 255) rfl (Pur.load rfl (CellIn.blk rfl)) ?_
    refine JM.setv (u' := .int .i64 (msg g k).v) 66 rfl rfl ?_
    refine JM.one (i := 8) (by kernel_rfl) ?_
    refine JMi.effN rfl rfl rfl (m' := 511) rfl (Eff.mapUpdate (K := intK) rfl rfl rfl) ?_
    rintro _ _ ⟨rfl, rfl⟩
    refine ⟨.inl (by simp), ?_⟩
    rw [kvs_set]
    rw [show setI (mem g (msg g k).to).got ((msg g k).rd : Int) (msg g k).v = (gotM g (msg g k)).got from rfl]
    refine JM.done rfl ?_
    refine J.region rfl ?_
    refine JO.pur rfl rfl rfl (Pur.move rfl) ?_
    refine JO.pur rfl rfl rfl (Pur.fieldAddr rfl) ?_
    refine JO.pur rfl rfl rfl (Pur.load rfl (CellIn.blk rfl)) ?_
    refine JO.imp (M := GB p am cm bs (setM (takeM g k) (msg g k).to (gotM g (msg g k))) :: L) (fun h s => by have s2 : Sat h (mp intK b (kvs (gotM g (msg g k)).got) :: zwBut mpA (msg g k).to bs g.ms :: blk p (gC g.kind g.op g.root am g.ms.length cm af (takeM g k).fly.length cf g.sent) :: sl memE am cm (g.ms.zip bs) :: sl msgE af cf (takeM g k).fly :: L) := SubC.out h s; have s3 := mp_put (m' := gotM g (msg g k)) hbi (mem_get hto) s2; have s4 : Sat h (blk p (gC g.kind g.op g.root am g.ms.length cm af (takeM g k).fly.length cf g.sent) :: sl memE am cm ((g.ms.set (msg g k).to (gotM g (msg g k))).zip bs) :: sl msgE af cf (takeM g k).fly :: star (List.zipWith mpA bs (g.ms.set (msg g k).to (gotM g (msg g k)))) :: L) := (SubC.out (M := sl memE am cm (g.ms.zip bs) :: blk p (gC g.kind g.op g.root am g.ms.length cm af (takeM g k).fly.length cf g.sent) :: sl msgE af cf (takeM g k).fly :: star (List.zipWith mpA bs (g.ms.set (msg g k).to (gotM g (msg g k)))) :: L) h s3).cons_imp (fun k' hk' => sl_same hzs1 hzs2 hk') (fun k' hk' => hk') |> SubC.out h; have e9 : g.ms.length = (g.ms.set (msg g k).to (gotM g (msg g k))).length := (by simp); rw [e9] at s4; exact GB_mk (g := setM (takeM g k) (msg g k).to (gotM g (msg g k))) (by rw [set_len]; exact hb) s4) ?_
    refine JO.eff rfl rfl rfl (Eff.call rfl (scan_ok (g := setM (takeM g k) (msg g k).to (gotM g (msg g k))) (i := (msg g k).to) (N := g.ms.length) hw3 hto (by rw [set_len]; rfl) ho (by show (g.fly.take k ++ g.fly.drop (k + 1)).length + 4 ≤ _; rw [List.length_append, List.length_take, List.length_drop]; omega))) ?_
    rintro _ _ ⟨rfl, rfl⟩
    refine JO.nil ?_
    refine J.inBlock ?_
    refine J.seq rfl ?_
    refine J.region rfl ?_
    refine JO.pur rfl rfl rfl (Pur.assign rfl) ?_
    refine JO.nil ?_
    refine J.ret rfl rfl ?_
    refine ⟨_, _, ⟨rfl, rfl⟩, rfl, fun h s => ?_⟩
    unfold dlvG
    first
    | (rw [if_pos hkd]; show Sat h (GB p am cm bs (scan 4 (setM (takeM g k) (msg g k).to (gotM g (msg g k))) (msg g k).to) :: L); exact SubC.out h s)
    | (rw [if_neg hkd]; unfold dlvT; rw [if_pos hup, if_pos hle]; exact SubC.out h s)
    | (rw [if_neg hkd]; unfold dlvT; rw [if_pos hup, if_neg hle]; revert h; exact (fun h s => by have s2 : Sat h (mp intK b (kvs (gotU g (msg g k)).got) :: zwBut mpA (msg g k).to bs g.ms :: blk p (gC g.kind g.op g.root am g.ms.length cm af (takeM g k).fly.length cf g.sent) :: sl memE am cm (g.ms.zip bs) :: sl msgE af cf (takeM g k).fly :: L) := SubC.out h s; have s3 := mp_put (m' := gotU g (msg g k)) hbi (mem_get hto) s2; have s4 : Sat h (blk p (gC g.kind g.op g.root am g.ms.length cm af (takeM g k).fly.length cf g.sent) :: sl memE am cm ((g.ms.set (msg g k).to (gotU g (msg g k))).zip bs) :: sl msgE af cf (takeM g k).fly :: star (List.zipWith mpA bs (g.ms.set (msg g k).to (gotU g (msg g k)))) :: L) := (SubC.out (M := sl memE am cm (g.ms.zip bs) :: blk p (gC g.kind g.op g.root am g.ms.length cm af (takeM g k).fly.length cf g.sent) :: sl msgE af cf (takeM g k).fly :: star (List.zipWith mpA bs (g.ms.set (msg g k).to (gotU g (msg g k)))) :: L) h s3).cons_imp (fun k' hk' => sl_same hzu1 hzu2 hk') (fun k' hk' => hk') |> SubC.out h; have e9 : g.ms.length = (g.ms.set (msg g k).to (gotU g (msg g k))).length := (by simp); rw [e9] at s4; exact GB_mk (g := setM (takeM g k) (msg g k).to (gotU g (msg g k))) (by rw [set_len]; exact hb) s4))
    | (rw [if_neg hkd]; unfold dlvT; rw [if_neg hup]; exact SubC.out h s)
  · try simp only [bSimp, bSimp2, ne_eq] at h53
    have hkd : ¬ g.kind = sScan := h53
    obtain ⟨hr0, hr1⟩ := hrt hkd
    have hrn : rt g < g.ms.length := by unfold rt; omega
    refine J.condF rfl rfl ?_
    refine J.seq rfl ?_
    refine J.region rfl ?_
    refine JO.pur rfl rfl rfl (Pur.fieldAddr rfl) ?_
    refine JO.pur rfl rfl rfl (Pur.load rfl (CellIn.blk rfl)) ?_
    refine JO.pur rfl rfl rfl (Pur.assign rfl) ?_
    refine JO.nil ?_
    refine J.splitB 71 rfl (fun h71 => ?_) (fun h71 => ?_)
    · try simp only [bSimp, bSimp2, ne_eq] at h71
      have hup : (msg g k).up = true := h71
      refine J.condT rfl rfl ?_
      refine J.seq rfl ?_
      refine J.imp (fun h s => mp_take hbi (mem_get hto) (SubC.out (M := star (List.zipWith mpA bs g.ms) :: blk b5 (.cells #[.int .i64 ((msg g k).fr : Int), .int .i64 ((msg g k).to : Int), .int .i64 (msg g k).v, .bool (msg g k).up, .int .i64 ((msg g k).rd : Int)] 84) :: blk p (gC g.kind g.op g.root am g.ms.length cm af (takeM g k).fly.length cf g.sent) :: sl memE am cm (g.ms.zip bs) :: sl msgE af cf (takeM g k).fly :: L) h s)) ?_
      refine J.mask0 (n := 9) [8] rfl Try.mixed rfl (by kernel_rfl) ?_
      refine JM.take 0 (fun _ h => h) rfl (by kernel_rfl) rfl rfl rfl (m' := 1) rfl (Pur.move rfl) ?_
      refine JM.take 1 (fun _ h => h) rfl (by kernel_rfl) rfl rfl rfl (m' := 3) rfl (Pur.nilCheck rfl) ?_
      refine JM.take 2 (fun _ h => h) rfl (by kernel_rfl) rfl rfl rfl (m' := 7) rfl (Pur.fieldAddr rfl) ?_
      refine JM.take 3 (fun _ h => h) rfl (by kernel_rfl) rfl rfl rfl (m' := 15) rfl (Pur.load rfl (CellIn.el rfl hzm rfl)) ?_
      refine JM.setv (u' := .map (some b)) 77 rfl rfl ?_
      refine JM.take 4 (fun _ h => h) rfl (by kernel_rfl) rfl rfl rfl (m' := 31) rfl (Pur.fieldAddr rfl) ?_
      refine JM.take 5 (fun _ h => h) rfl (by kernel_rfl) rfl rfl rfl (m' := 63) rfl (Pur.load rfl (CellIn.blk rfl)) ?_
      refine JM.setv (u' := .int .i64 ((msg g k).fr : Int)) 79 rfl rfl ?_
      refine JM.take 6 (fun _ h => h) rfl (by kernel_rfl) rfl rfl rfl (m' := 127) rfl (Pur.fieldAddr rfl) ?_
      refine JM.take 7 (fun _ h => h) rfl (by kernel_rfl) rfl rfl rfl (m' := 255) rfl (Pur.load rfl (CellIn.blk rfl)) ?_
      refine JM.setv (u' := .int .i64 (msg g k).v) 81 rfl rfl ?_
      refine JM.one (i := 8) (by kernel_rfl) ?_
      refine JMi.effN rfl rfl rfl (m' := 511) rfl (Eff.mapUpdate (K := intK) rfl rfl rfl) ?_
      rintro _ _ ⟨rfl, rfl⟩
      refine ⟨.inl (by simp), ?_⟩
      rw [kvs_set]
      rw [show setI (mem g (msg g k).to).got ((msg g k).fr : Int) (msg g k).v = (gotU g (msg g k)).got from rfl]
      refine JM.done rfl ?_
      refine J.seq rfl ?_
      refine J.mask0 (n := 19) [16] rfl Try.mixed rfl (by kernel_rfl) ?_
      refine JM.takeF 0 (.inr (fun _ h => h)) rfl (by kernel_rfl) rfl rfl rfl (m' := 1) rfl (Pur.move rfl) ?_
      refine JM.take 1 (fun _ h => h) rfl (by kernel_rfl) rfl rfl rfl (m' := 3) rfl (Pur.nilCheck rfl) ?_
      refine JM.take 2 (fun _ h => h) rfl (by kernel_rfl) rfl rfl rfl (m' := 7) rfl (Pur.fieldAddr rfl) ?_
      refine JM.take 3 (fun _ h => h) rfl (by kernel_rfl) rfl rfl rfl (m' := 15) rfl (Pur.load rfl (CellIn.el rfl hzm rfl)) ?_
      refine JM.setv (u' := .map (some b)) 85 rfl rfl ?_
      refine JM.take 4 (fun _ h => h) rfl (by kernel_rfl) rfl rfl rfl (m' := 31) rfl (Pur.lenM rfl) ?_
      refine JM.takeF 5 (.inr (fun _ h => h)) rfl (by kernel_rfl) rfl rfl rfl (m' := 63) rfl (Pur.move rfl) ?_
      refine JM.take 6 (fun _ h => h) rfl (by kernel_rfl) rfl rfl rfl (m' := 127) rfl (Pur.nilCheck rfl) ?_
      refine JM.take 7 (fun _ h => h) rfl (by kernel_rfl) rfl rfl rfl (m' := 255) rfl (Pur.fieldAddr rfl) ?_
      refine JM.take 8 (fun _ h => h) rfl (by kernel_rfl) rfl rfl rfl (m' := 511) rfl (Pur.load rfl (CellIn.blk rfl)) ?_
      refine JM.take 9 (fun _ h => h) rfl (by kernel_rfl) rfl rfl rfl (m' := 1023) rfl (Pur.len rfl) ?_
      refine JM.take 10 (fun _ h => h) rfl (by kernel_rfl) rfl rfl rfl (m' := 2047) rfl (Pur.move rfl) ?_
      refine JM.take 11 (fun _ h => h) rfl (by kernel_rfl) rfl rfl rfl (m' := 4095) rfl (Pur.nilCheck rfl) ?_
      refine JM.take 12 (fun _ h => h) rfl (by kernel_rfl) rfl rfl rfl (m' := 8191) rfl (Pur.fieldAddr rfl) ?_
      refine JM.take 13 (fun _ h => h) rfl (by kernel_rfl) rfl rfl rfl (m' := 16383) rfl (Pur.load rfl (CellIn.blk rfl)) ?_
      refine JM.setv (u' := .int .i64 ((rt g : Nat) : Int)) 95 rfl (congrArg (Value.int .i64) (by unfold rt; exact (Int.toNat_of_nonneg hr0).symm)) ?_
      refine JM.take 14 (fun _ h => h) rfl (by kernel_rfl) rfl rfl rfl (m' := 32767) rfl (Pur.fieldAddr rfl) ?_
      refine JM.take 15 (fun _ h => h) rfl (by kernel_rfl) rfl rfl rfl (m' := 65535) rfl (Pur.load rfl (CellIn.blk rfl)) ?_
      refine JM.setv (u' := .int .i64 ((msg g k).to : Int)) 97 rfl rfl ?_
      refine JM.one (i := 16) (by kernel_rfl) ?_
      refine JMi.eff rfl rfl rfl rfl (m' := 131071) rfl (Eff.call rfl (children_ok (n := g.ms.length) (root := rt g) (p := (msg g k).to) (by omega) (by omega) (by omega))) ?_
      rintro _ _ ⟨a98, c98, rfl, rfl⟩
      refine ⟨.inl (by simp), ?_⟩
      refine JM.takeF 17 (.inl (by kernel_rfl)) rfl (by kernel_rfl) rfl rfl rfl (m' := 262143) rfl (Pur.len rfl) ?_
      refine JM.takeF 18 (.inl (by kernel_rfl)) rfl (by kernel_rfl) rfl rfl rfl (m' := 524287) rfl (Pur.eqlI rfl rfl) ?_
      refine JM.done rfl ?_
      refine J.splitB 100 rfl (fun h100 => ?_) (fun h100 => ?_)
      · try simp only [bSimp, bSimp2, ne_eq] at h100
        have hle : (gotU g (msg g k)).got.length = (chG g (msg g k).to).length := by rw [kvs_len, natI_len] at h100; show _ = (chP g.ms.length (rt g) (msg g k).to).length; omega
        refine J.condT rfl rfl ?_
        refine J.region rfl ?_
        refine JO.pur rfl rfl rfl (Pur.move rfl) ?_
        refine JO.pur rfl rfl rfl (Pur.fieldAddr rfl) ?_
        refine JO.pur rfl rfl rfl (Pur.load rfl (CellIn.blk rfl)) ?_
        refine JO.imp (M := GB p am cm bs (upG g k) :: L) (fun h s => by have s2 : Sat h (mp intK b (kvs (gotU g (msg g k)).got) :: zwBut mpA (msg g k).to bs g.ms :: blk p (gC g.kind g.op g.root am g.ms.length cm af (takeM g k).fly.length cf g.sent) :: sl memE am cm (g.ms.zip bs) :: sl msgE af cf (takeM g k).fly :: L) := SubC.out h s; have s3 := mp_put (m' := gotU g (msg g k)) hbi (mem_get hto) s2; have s4 : Sat h (blk p (gC g.kind g.op g.root am g.ms.length cm af (takeM g k).fly.length cf g.sent) :: sl memE am cm ((g.ms.set (msg g k).to (gotU g (msg g k))).zip bs) :: sl msgE af cf (takeM g k).fly :: star (List.zipWith mpA bs (g.ms.set (msg g k).to (gotU g (msg g k)))) :: L) := (SubC.out (M := sl memE am cm (g.ms.zip bs) :: blk p (gC g.kind g.op g.root am g.ms.length cm af (takeM g k).fly.length cf g.sent) :: sl msgE af cf (takeM g k).fly :: star (List.zipWith mpA bs (g.ms.set (msg g k).to (gotU g (msg g k)))) :: L) h s3).cons_imp (fun k' hk' => sl_same hzu1 hzu2 hk') (fun k' hk' => hk') |> SubC.out h; have e9 : g.ms.length = (g.ms.set (msg g k).to (gotU g (msg g k))).length := (by simp); rw [e9] at s4; exact GB_mk (g := setM (takeM g k) (msg g k).to (gotU g (msg g k))) (by rw [set_len]; exact hb) s4) ?_
        refine JO.eff rfl rfl rfl (Eff.call rfl (combG_ok (g := upG g k) (i := (msg g k).to) (wf_set (wf_take hw k) hrd) hr0 (by unfold upG; rw [set_len]; exact hr1) (by unfold upG; rw [set_len]; exact hto) ho (by show (takeM g k).fly.length ≤ 10000; omega))) ?_
        rintro _ _ ⟨rfl, rfl⟩
        refine JO.nil ?_
        refine J.inBlock ?_
        refine J.seq rfl ?_
        refine J.region rfl ?_
        refine JO.pur rfl rfl rfl (Pur.assign rfl) ?_
        refine JO.nil ?_
        refine J.ret rfl rfl ?_
        refine ⟨_, _, ⟨rfl, rfl⟩, rfl, fun h s => ?_⟩
        unfold dlvG
        first
        | (rw [if_pos hkd]; show Sat h (GB p am cm bs (scan 4 (setM (takeM g k) (msg g k).to (gotM g (msg g k))) (msg g k).to) :: L); exact SubC.out h s)
        | (rw [if_neg hkd]; unfold dlvT; rw [if_pos hup, if_pos hle]; exact SubC.out h s)
        | (rw [if_neg hkd]; unfold dlvT; rw [if_pos hup, if_neg hle]; revert h; exact (fun h s => by have s2 : Sat h (mp intK b (kvs (gotU g (msg g k)).got) :: zwBut mpA (msg g k).to bs g.ms :: blk p (gC g.kind g.op g.root am g.ms.length cm af (takeM g k).fly.length cf g.sent) :: sl memE am cm (g.ms.zip bs) :: sl msgE af cf (takeM g k).fly :: L) := SubC.out h s; have s3 := mp_put (m' := gotU g (msg g k)) hbi (mem_get hto) s2; have s4 : Sat h (blk p (gC g.kind g.op g.root am g.ms.length cm af (takeM g k).fly.length cf g.sent) :: sl memE am cm ((g.ms.set (msg g k).to (gotU g (msg g k))).zip bs) :: sl msgE af cf (takeM g k).fly :: star (List.zipWith mpA bs (g.ms.set (msg g k).to (gotU g (msg g k)))) :: L) := (SubC.out (M := sl memE am cm (g.ms.zip bs) :: blk p (gC g.kind g.op g.root am g.ms.length cm af (takeM g k).fly.length cf g.sent) :: sl msgE af cf (takeM g k).fly :: star (List.zipWith mpA bs (g.ms.set (msg g k).to (gotU g (msg g k)))) :: L) h s3).cons_imp (fun k' hk' => sl_same hzu1 hzu2 hk') (fun k' hk' => hk') |> SubC.out h; have e9 : g.ms.length = (g.ms.set (msg g k).to (gotU g (msg g k))).length := (by simp); rw [e9] at s4; exact GB_mk (g := setM (takeM g k) (msg g k).to (gotU g (msg g k))) (by rw [set_len]; exact hb) s4))
        | (rw [if_neg hkd]; unfold dlvT; rw [if_neg hup]; exact SubC.out h s)
      · try simp only [bSimp, bSimp2, ne_eq] at h100
        have hle : ¬ (gotU g (msg g k)).got.length = (chG g (msg g k).to).length := by rw [kvs_len, natI_len] at h100; show ¬ _ = (chP g.ms.length (rt g) (msg g k).to).length; omega
        refine J.condF rfl rfl ?_
        refine J.skip rfl ?_
        refine J.inBlock ?_
        refine J.seq rfl ?_
        refine J.region rfl ?_
        refine JO.pur rfl rfl rfl (Pur.assign rfl) ?_
        refine JO.nil ?_
        refine J.ret rfl rfl ?_
        refine ⟨_, _, ⟨rfl, rfl⟩, rfl, fun h s => ?_⟩
        unfold dlvG
        first
        | (rw [if_pos hkd]; show Sat h (GB p am cm bs (scan 4 (setM (takeM g k) (msg g k).to (gotM g (msg g k))) (msg g k).to) :: L); exact SubC.out h s)
        | (rw [if_neg hkd]; unfold dlvT; rw [if_pos hup, if_pos hle]; exact SubC.out h s)
        | (rw [if_neg hkd]; unfold dlvT; rw [if_pos hup, if_neg hle]; revert h; exact (fun h s => by have s2 : Sat h (mp intK b (kvs (gotU g (msg g k)).got) :: zwBut mpA (msg g k).to bs g.ms :: blk p (gC g.kind g.op g.root am g.ms.length cm af (takeM g k).fly.length cf g.sent) :: sl memE am cm (g.ms.zip bs) :: sl msgE af cf (takeM g k).fly :: L) := SubC.out h s; have s3 := mp_put (m' := gotU g (msg g k)) hbi (mem_get hto) s2; have s4 : Sat h (blk p (gC g.kind g.op g.root am g.ms.length cm af (takeM g k).fly.length cf g.sent) :: sl memE am cm ((g.ms.set (msg g k).to (gotU g (msg g k))).zip bs) :: sl msgE af cf (takeM g k).fly :: star (List.zipWith mpA bs (g.ms.set (msg g k).to (gotU g (msg g k)))) :: L) := (SubC.out (M := sl memE am cm (g.ms.zip bs) :: blk p (gC g.kind g.op g.root am g.ms.length cm af (takeM g k).fly.length cf g.sent) :: sl msgE af cf (takeM g k).fly :: star (List.zipWith mpA bs (g.ms.set (msg g k).to (gotU g (msg g k)))) :: L) h s3).cons_imp (fun k' hk' => sl_same hzu1 hzu2 hk') (fun k' hk' => hk') |> SubC.out h; have e9 : g.ms.length = (g.ms.set (msg g k).to (gotU g (msg g k))).length := (by simp); rw [e9] at s4; exact GB_mk (g := setM (takeM g k) (msg g k).to (gotU g (msg g k))) (by rw [set_len]; exact hb) s4))
        | (rw [if_neg hkd]; unfold dlvT; rw [if_neg hup]; exact SubC.out h s)
    · try simp only [bSimp, bSimp2, ne_eq] at h71
      have hup : ¬ (msg g k).up = true := fun e => by simp [e] at h71
      refine J.condF rfl rfl ?_
      refine J.region rfl ?_
      refine JO.pur rfl rfl rfl (Pur.move rfl) ?_
      refine JO.pur rfl rfl rfl (Pur.fieldAddr rfl) ?_
      refine JO.pur rfl rfl rfl (Pur.load rfl (CellIn.blk rfl)) ?_
      refine JO.pur rfl rfl rfl (Pur.fieldAddr rfl) ?_
      refine JO.pur rfl rfl rfl (Pur.load rfl (CellIn.blk rfl)) ?_
      refine JO.imp (M := GB p am cm bs (takeM g k) :: L) (fun h s => GB_mk (g := takeM g k) (af := af) (cf := cf) hb (SubC.out (M := blk p (gC g.kind g.op g.root am g.ms.length cm af (takeM g k).fly.length cf g.sent) :: sl memE am cm (g.ms.zip bs) :: sl msgE af cf (takeM g k).fly :: star (List.zipWith mpA bs g.ms) :: L) h s)) ?_
      refine JO.eff rfl rfl rfl (Eff.call rfl (castG_ok (g := takeM g k) (i := (msg g k).to) (z := (msg g k).v) (wf_take hw k) hr0 hr1 hto (by have := hft; omega))) ?_
      rintro _ _ ⟨rfl, rfl⟩
      refine JO.nil ?_
      refine J.inBlock ?_
      refine J.seq rfl ?_
      refine J.region rfl ?_
      refine JO.pur rfl rfl rfl (Pur.assign rfl) ?_
      refine JO.nil ?_
      refine J.ret rfl rfl ?_
      refine ⟨_, _, ⟨rfl, rfl⟩, rfl, fun h s => ?_⟩
      unfold dlvG
      first
      | (rw [if_pos hkd]; show Sat h (GB p am cm bs (scan 4 (setM (takeM g k) (msg g k).to (gotM g (msg g k))) (msg g k).to) :: L); exact SubC.out h s)
      | (rw [if_neg hkd]; unfold dlvT; rw [if_pos hup, if_pos hle]; exact SubC.out h s)
      | (rw [if_neg hkd]; unfold dlvT; rw [if_pos hup, if_neg hle]; revert h; exact (fun h s => by have s2 : Sat h (mp intK b (kvs (gotU g (msg g k)).got) :: zwBut mpA (msg g k).to bs g.ms :: blk p (gC g.kind g.op g.root am g.ms.length cm af (takeM g k).fly.length cf g.sent) :: sl memE am cm (g.ms.zip bs) :: sl msgE af cf (takeM g k).fly :: L) := SubC.out h s; have s3 := mp_put (m' := gotU g (msg g k)) hbi (mem_get hto) s2; have s4 : Sat h (blk p (gC g.kind g.op g.root am g.ms.length cm af (takeM g k).fly.length cf g.sent) :: sl memE am cm ((g.ms.set (msg g k).to (gotU g (msg g k))).zip bs) :: sl msgE af cf (takeM g k).fly :: star (List.zipWith mpA bs (g.ms.set (msg g k).to (gotU g (msg g k)))) :: L) := (SubC.out (M := sl memE am cm (g.ms.zip bs) :: blk p (gC g.kind g.op g.root am g.ms.length cm af (takeM g k).fly.length cf g.sent) :: sl msgE af cf (takeM g k).fly :: star (List.zipWith mpA bs (g.ms.set (msg g k).to (gotU g (msg g k)))) :: L) h s3).cons_imp (fun k' hk' => sl_same hzu1 hzu2 hk') (fun k' hk' => hk') |> SubC.out h; have e9 : g.ms.length = (g.ms.set (msg g k).to (gotU g (msg g k))).length := (by simp); rw [e9] at s4; exact GB_mk (g := setM (takeM g k) (msg g k).to (gotU g (msg g k))) (by rw [set_len]; exact hb) s4))
      | (rw [if_neg hkd]; unfold dlvT; rw [if_neg hup]; exact SubC.out h s)

end Go.Proofs.Ytoikjjpleonllaa
