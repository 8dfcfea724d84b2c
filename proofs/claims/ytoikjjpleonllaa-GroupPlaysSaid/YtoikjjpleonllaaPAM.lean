/-
  A part of the proof of the claim that this folder bears.
-/
import Derived.Test.YtoikjjpleonllaaPAL
import Derived.Test.YtoikjjpleonllaaPAK
/- The text R3. -/
set_option linter.unusedVariables false
set_option linter.unusedSimpArgs false
set_option maxRecDepth 10000
namespace Go.Proofs.Ytoikjjpleonllaa
open Go Go.KK Gr Rg

set_option maxHeartbeats 4000000 in
theorem rcomb_ok {L : List Asn} {p n : Nat} {X : Rs} (hw : WR n X) {i : Nat} (hr0 : 0 ≤ X.root) (hr1 : X.root < (n : Int)) (hi : i < n) (ho : okOp X.op) (hf : X.fly.length ≤ 10000) (hgl : (rgot X i).length ≤ 1000) :
    CallS Try.prog 49 [.pointer (some ⟨p, 0, none⟩), .int .i64 (i : Int)].toArray (RB p X :: L) (fun v M => v = .tuple #[] ∧ M = RB p (combR X i) :: L) := by
  have wn1 := hw.n1
  have wn8 := hw.n8
  have wls := hw.ls
  have wlh := hw.lh
  have wlg := hw.lg
  have wlr := hw.lr
  have wlb := hw.lb
  have hrn : rrt X < n := by unfold rrt; omega
  have hcv : (chV ((X.sum.length : Nat) : Int) ((rrt X : Nat) : Int) (i : Int)).1 = natI (chP X.sum.length (rrt X) i) ∧ (chV ((X.sum.length : Nat) : Int) ((rrt X : Nat) : Int) (i : Int)).2 = 0 := by unfold chV; rw [if_pos ⟨by omega, by omega, by omega, by omega, by omega, by omega⟩]; exact ⟨rfl, rfl⟩
  refine CallS.ent ?_
  refine CallS.enter Try.func49 rfl rfl rfl rfl rfl ?_
  refine RB_open fun sa sc ha hc ga gc ra rc ba bc fa fc hs hb => ?_
  refine J.imp (M := blk p (rC X.kind X.op X.root X.sum.length sa sc ha X.has.length hc ga X.got.length gc ra X.rnd.length rc ba X.beg.length bc fa X.fly.length fc X.sent) :: sl intE sa sc X.sum :: sl boE ha hc X.has :: sl grE ga gc (hs.zip X.got) :: star (List.zipWith gA hs X.got) :: sl natE ra rc X.rnd :: sl boE ba bc X.beg :: slQ rmE fa fc X.fly :: L) (fun h s => s) ?_
  obtain ⟨hd, hbi⟩ : ∃ hd, hs[i]? = some hd := ⟨_, List.getElem?_eq_getElem (by omega)⟩
  have hgi : X.got[i]? = some (rgot X i) := getD_get ([] : List Rm) (by omega)
  have hzg := zipr_get hbi hgi
  refine J.seq rfl ?_
  refine J.mask0 (n := 15) [9] rfl Try.mixed rfl (by kernel_rfl) ?_
  refine JM.take 0 (fun _ h => h) rfl (by kernel_rfl) rfl rfl rfl (m' := 1) rfl (Pur.move rfl) ?_
  refine JM.take 1 (fun _ h => h) rfl (by kernel_rfl) rfl rfl rfl (m' := 3) rfl (Pur.nilCheck rfl) ?_
  refine JM.take 2 (fun _ h => h) rfl (by kernel_rfl) rfl rfl rfl (m' := 7) rfl (Pur.fieldAddr rfl) ?_
  refine JM.take 3 (fun _ h => h) rfl (by kernel_rfl) rfl rfl rfl (m' := 15) rfl (Pur.load rfl (CellIn.blk rfl)) ?_
  refine JM.setv (u' := .int .i64 ((X.sum.length : Nat) : Int)) 16 rfl rfl ?_
  refine JM.take 4 (fun _ h => h) rfl (by kernel_rfl) rfl rfl rfl (m' := 31) rfl (Pur.move rfl) ?_
  refine JM.take 5 (fun _ h => h) rfl (by kernel_rfl) rfl rfl rfl (m' := 63) rfl (Pur.nilCheck rfl) ?_
  refine JM.take 6 (fun _ h => h) rfl (by kernel_rfl) rfl rfl rfl (m' := 127) rfl (Pur.fieldAddr rfl) ?_
  refine JM.take 7 (fun _ h => h) rfl (by kernel_rfl) rfl rfl rfl (m' := 255) rfl (Pur.load rfl (CellIn.blk rfl)) ?_
  refine JM.setv (u' := .int .i64 ((rrt X : Nat) : Int)) 20 rfl (congrArg (Value.int .i64) (by unfold rrt; exact (Int.toNat_of_nonneg hr0).symm)) ?_
  refine JM.take 8 (fun _ h => h) rfl (by kernel_rfl) rfl rfl rfl (m' := 511) rfl (Pur.move rfl) ?_
  refine JM.one (i := 9) (by kernel_rfl) ?_
  refine JMi.eff rfl rfl rfl rfl (m' := 1023) rfl (Eff.call rfl (rChildren_ok (n := ((X.sum.length : Nat) : Int)) (root := ((rrt X : Nat) : Int)) (q := (i : Int)))) ?_
  rintro _ _ ⟨a22, c22, rfl, rfl⟩
  refine ⟨.inl (by simp), ?_⟩
  rw [hcv.1, hcv.2]
  obtain ⟨CH, hCH⟩ : ∃ l, l = (chP X.sum.length (rrt X) i) := ⟨_, rfl⟩
  rw [← hCH]
  refine JM.takeF 10 (.inl (by kernel_rfl)) rfl (by kernel_rfl) rfl rfl rfl (m' := 2047) rfl (Pur.move rfl) ?_
  refine JM.takeF 11 (.inl (by kernel_rfl)) rfl (by kernel_rfl) rfl rfl rfl (m' := 4095) rfl (Pur.extract rfl rfl) ?_
  refine JM.takeF 12 (.inl (by kernel_rfl)) rfl (by kernel_rfl) rfl rfl rfl (m' := 8191) rfl (Pur.extract rfl rfl) ?_
  refine JM.takeF 13 (.inl (by kernel_rfl)) rfl (by kernel_rfl) rfl rfl rfl (m' := 16383) rfl (Pur.assign rfl) ?_
  refine JM.takeF 14 (.inl (by kernel_rfl)) rfl (by kernel_rfl) rfl rfl rfl (m' := 32767) rfl (Pur.assign rfl) ?_
  refine JM.done rfl ?_
  refine J.seq rfl ?_
  refine J.region rfl ?_
  refine JO.pur rfl rfl rfl (Pur.move rfl) ?_
  refine JO.pur rfl rfl rfl (Pur.nilCheck rfl) ?_
  refine JO.pur rfl rfl rfl (Pur.fieldAddr rfl) ?_
  refine JO.pur rfl rfl rfl (Pur.load rfl (CellIn.blk rfl)) ?_
  refine JO.pur rfl rfl rfl (Pur.move rfl) ?_
  refine JO.pur rfl rfl rfl (Pur.idx rfl rfl rfl (by first | rfl | (simp; done) | omega | (rw [List.length_zip]; omega) | (rw [natI_len]; omega)) rfl (by rw [wls]; exact hi)) ?_
  refine JO.pur rfl rfl rfl (Pur.load rfl (CellIn.el0 rfl (getD_get 0 (by rw [wls]; exact hi)) rfl)) ?_
  refine JO.setv (u' := .int .i64 (rsum X i)) 31 rfl rfl ?_
  refine JO.pur rfl rfl rfl (Pur.assign rfl) ?_
  refine JO.nil ?_
  refine J.seq rfl ?_
  refine J.seq rfl ?_
  have hc3 : CH.length ≤ 3 := by rw [hCH]; exact chP_len _ _ _
  refine J.imp (M := blk p (rC X.kind X.op X.root X.sum.length sa sc ha X.has.length hc ga X.got.length gc ra X.rnd.length rc ba X.beg.length bc fa X.fly.length fc X.sent) :: sl intE sa sc X.sum :: sl boE ha hc X.has :: sl grE ga gc (hs.zip X.got) :: gA hd (rgot X i) :: zwBut gA i hs X.got :: sl natE ra rc X.rnd :: sl boE ba bc X.beg :: slQ rmE fa fc X.fly :: sl intE a22 c22 (natI CH) :: L) (fun h s => SubC.out h (zw_open (A := gA) hbi hgi (SubC.out (M := star (List.zipWith gA hs X.got) :: blk p (rC X.kind X.op X.root X.sum.length sa sc ha X.has.length hc ga X.got.length gc ra X.rnd.length rc ba X.beg.length bc fa X.fly.length fc X.sent) :: sl intE sa sc X.sum :: sl boE ha hc X.has :: sl grE ga gc (hs.zip X.got) :: sl natE ra rc X.rnd :: sl boE ba bc X.beg :: slQ rmE fa fc X.fly :: sl intE a22 c22 (natI CH) :: L) h s))) ?_
  refine J.region rfl ?_
  refine JO.pur rfl rfl rfl (Pur.assign rfl) ?_
  refine JO.nil ?_
  refine J.block rfl ?_
  refine J.loopF (ι := Nat × Int) (fun q => q.1 ≤ CH.length ∧ colR X.op (rgot X i) (CH.drop q.1) q.2 = colR X.op (rgot X i) CH (rsum X i)) (fun q => [(6, .int .i64 q.2), (7, .int .i64 (q.1 : Int))]) [(0, _), (1, _), (4, _)] (fun q => blk p (rC X.kind X.op X.root X.sum.length sa sc ha X.has.length hc ga X.got.length gc ra X.rnd.length rc ba X.beg.length bc fa X.fly.length fc X.sent) :: sl intE sa sc X.sum :: sl boE ha hc X.has :: sl grE ga gc (hs.zip X.got) :: gA hd (rgot X i) :: zwBut gA i hs X.got :: sl natE ra rc X.rnd :: sl boE ba bc X.beg :: slQ rmE fa fc X.fly :: sl intE a22 c22 (natI CH) :: L) (fun q => CH.length - q.1) (0, rsum X i) rfl (.cons rfl rfl (.cons rfl rfl (.cons rfl rfl .nil))) (.cons rfl rfl (.cons rfl rfl .nil)) (fun h s => SubC.out h s) ⟨Nat.zero_le _, rfl⟩ ?_
  rintro ⟨k, a⟩ ⟨hk, hcol⟩ ihk
  try dsimp only
  dsimp only at hk hcol
  refine J.seq rfl ?_
  refine J.seq rfl ?_
  refine J.region rfl ?_
  refine JO.pur rfl rfl rfl (Pur.move rfl) ?_
  refine JO.pur rfl rfl rfl (Pur.move rfl) ?_
  refine JO.pur rfl rfl rfl (Pur.len rfl) ?_
  refine JO.pur rfl rfl rfl (Pur.lss rfl rfl) ?_
  refine JO.nil ?_
  refine J.splitB 35 rfl (fun h35 => ?_) (fun h35 => ?_)
  · try simp only [bSimp, bSimp2, ne_eq] at h35
    have hnl := natI_len CH
    have hkl : k < CH.length := by omega
    obtain ⟨c, hX⟩ : ∃ c, CH[k]? = some c := ⟨_, List.getElem?_eq_getElem hkl⟩
    have hdr : CH.drop k = c :: CH.drop (k + 1) := by rw [← (List.getElem?_eq_some_iff.1 hX).2]; exact List.drop_eq_getElem_cons hkl
    have hcl : colR X.op (rgot X i) (CH.drop k) a = if (seekC X.op c (rgot X i) a).2 = true then colR X.op (rgot X i) (CH.drop (k + 1)) (seekC X.op c (rgot X i) a).1 else none := by rw [hdr]; rfl
    refine J.condT rfl rfl ?_
    refine J.skip rfl ?_
    refine J.seq rfl ?_
    refine J.block rfl ?_
    refine J.seq rfl ?_
    refine J.region rfl ?_
    refine JO.pur rfl rfl rfl (Pur.assign rfl) ?_
    refine JO.nil ?_
    refine J.seq rfl ?_
    refine J.seq rfl ?_
    refine J.region rfl ?_
    refine JO.pur rfl rfl rfl (Pur.assign rfl) ?_
    refine JO.nil ?_
    refine J.block rfl ?_
    refine J.loopF (ι := Nat) (fun q => q ≤ (rgot X i).length) (fun q => [(6, .int .i64 (seekC X.op c ((rgot X i).take q) a).1), (8, .bool (seekC X.op c ((rgot X i).take q) a).2), (9, .int .i64 (q : Int))]) [(0, _), (1, _), (4, _), (7, _)] (fun q => blk p (rC X.kind X.op X.root X.sum.length sa sc ha X.has.length hc ga X.got.length gc ra X.rnd.length rc ba X.beg.length bc fa X.fly.length fc X.sent) :: sl intE sa sc X.sum :: sl boE ha hc X.has :: sl grE ga gc (hs.zip X.got) :: gA hd (rgot X i) :: zwBut gA i hs X.got :: sl natE ra rc X.rnd :: sl boE ba bc X.beg :: slQ rmE fa fc X.fly :: sl intE a22 c22 (natI CH) :: L) (fun q => (rgot X i).length - q) 0 rfl (.cons rfl rfl (.cons rfl rfl (.cons rfl rfl (.cons rfl rfl .nil)))) (.cons rfl rfl (.cons rfl rfl (.cons rfl rfl .nil))) (by first | exact fun _ h => h | exact SubC.out | (dsimp only; exact SubC.out)) (Nat.zero_le _) ?_
    rintro q hq ihq
    try dsimp only
    refine J.seq rfl ?_
    refine J.seq rfl ?_
    refine J.region rfl ?_
    refine JO.pur rfl rfl rfl (Pur.move rfl) ?_
    refine JO.pur rfl rfl rfl (Pur.move rfl) ?_
    refine JO.pur rfl rfl rfl (Pur.nilCheck rfl) ?_
    refine JO.pur rfl rfl rfl (Pur.fieldAddr rfl) ?_
    refine JO.pur rfl rfl rfl (Pur.load rfl (CellIn.blk rfl)) ?_
    refine JO.pur rfl rfl rfl (Pur.move rfl) ?_
    refine JO.pur rfl rfl rfl (Pur.idx rfl rfl rfl (by first | rfl | (simp; done) | omega | (rw [List.length_zip]; omega) | (rw [natI_len]; omega)) rfl (by rw [List.length_zip]; omega)) ?_
    refine JO.pur rfl rfl rfl (Pur.load rfl (CellIn.el0 rfl hzg rfl)) ?_
    refine JO.setv (u' := .slice hd.1 (rgot X i).length hd.2) 45 rfl rfl ?_
    refine JO.pur rfl rfl rfl (Pur.len rfl) ?_
    refine JO.pur rfl rfl rfl (Pur.lss rfl rfl) ?_
    refine JO.nil ?_
    refine J.splitB 47 rfl (fun h47 => ?_) (fun h47 => ?_)
    · try simp only [bSimp, bSimp2, ne_eq] at h47
      have hql : q < (rgot X i).length := by omega
      obtain ⟨m, hM⟩ : ∃ m, (rgot X i)[q]? = some m := ⟨_, List.getElem?_eq_getElem hql⟩
      have hsn := seekC_snoc X.op c ((rgot X i).take q) m a
      rw [← take_get hM] at hsn
      refine J.condT rfl rfl ?_
      refine J.skip rfl ?_
      refine J.seq rfl ?_
      refine J.block rfl ?_
      refine J.seq rfl ?_
      refine J.quiet rfl Try.mixed (by kernel_rfl) ?_
      refine JQ.pur rfl rfl rfl (Pur.move rfl) ?_
      refine JQ.pur rfl rfl rfl (Pur.nilCheck rfl) ?_
      refine JQ.pur rfl rfl rfl (Pur.fieldAddr rfl) ?_
      refine JQ.pur rfl rfl rfl (Pur.load rfl (CellIn.blk rfl)) ?_
      refine JQ.pur rfl rfl rfl (Pur.move rfl) ?_
      refine JQ.pur rfl rfl rfl (Pur.idx rfl rfl rfl (by first | rfl | (simp; done) | omega | (rw [List.length_zip]; omega) | (rw [natI_len]; omega)) rfl (by rw [List.length_zip]; omega)) ?_
      refine JQ.pur rfl rfl rfl (Pur.load rfl (CellIn.el0 rfl hzg rfl)) ?_
      refine JQ.setv (u' := .slice hd.1 (rgot X i).length hd.2) 56 rfl rfl ?_
      refine JQ.pur rfl rfl rfl (Pur.move rfl) ?_
      refine JQ.pur rfl rfl rfl (Pur.idx rfl rfl rfl (by first | rfl | (simp; done) | omega | (rw [List.length_zip]; omega) | (rw [natI_len]; omega)) rfl hql) ?_
      refine JQ.pur rfl rfl rfl (Pur.fieldAddr rfl) ?_
      refine JQ.pur rfl rfl rfl (Pur.load rfl (CellIn.el rfl hM rfl)) ?_
      refine JQ.setv (u' := .int .i64 (m.fr : Int)) 60 rfl rfl ?_
      refine JQ.pur rfl rfl rfl (Pur.move rfl) ?_
      refine JQ.pur rfl rfl rfl (Pur.move rfl) ?_
      refine JQ.pur rfl rfl rfl (Pur.idx rfl rfl rfl (by first | rfl | (simp; done) | omega | (rw [List.length_zip]; omega) | (rw [natI_len]; omega)) rfl (by rw [natI_len]; exact hkl)) ?_
      refine JQ.pur rfl rfl rfl (Pur.load rfl (CellIn.el0 rfl (natI_get hX) rfl)) ?_
      refine JQ.setv (u' := .int .i64 (c : Int)) 64 rfl rfl ?_
      refine JQ.pur rfl rfl rfl (Pur.eqlI rfl rfl) ?_
      refine JQ.nil ?_
      refine J.splitB 65 rfl (fun h65 => ?_) (fun h65 => ?_)
      · try simp only [bSimp, bSimp2, ne_eq] at h65
        have hrd : m.fr = c := by omega
        refine J.condT rfl rfl ?_
        refine J.seq rfl ?_
        refine J.mask0 (n := 23) [17] rfl Try.mixed rfl (by kernel_rfl) ?_
        refine JM.take 0 (fun _ h => h) rfl (by kernel_rfl) rfl rfl rfl (m' := 1) rfl (Pur.move rfl) ?_
        refine JM.take 1 (fun _ h => h) rfl (by kernel_rfl) rfl rfl rfl (m' := 3) rfl (Pur.nilCheck rfl) ?_
        refine JM.take 2 (fun _ h => h) rfl (by kernel_rfl) rfl rfl rfl (m' := 7) rfl (Pur.fieldAddr rfl) ?_
        refine JM.take 3 (fun _ h => h) rfl (by kernel_rfl) rfl rfl rfl (m' := 15) rfl (Pur.load rfl (CellIn.blk rfl)) ?_
        refine JM.take 4 (fun _ h => h) rfl (by kernel_rfl) rfl rfl rfl (m' := 31) rfl (Pur.move rfl) ?_
        refine JM.takeF 5 (.inr (fun _ h => h)) rfl (by kernel_rfl) rfl rfl rfl (m' := 63) rfl (Pur.move rfl) ?_
        refine JM.takeF 6 (.inr (fun _ h => h)) rfl (by kernel_rfl) rfl rfl rfl (m' := 127) rfl (Pur.nilCheck rfl) ?_
        refine JM.takeF 7 (.inr (fun _ h => h)) rfl (by kernel_rfl) rfl rfl rfl (m' := 255) rfl (Pur.fieldAddr rfl) ?_
        refine JM.takeF 9 (.inr (fun _ h => h)) rfl (by kernel_rfl) rfl rfl rfl (m' := 767) rfl (Pur.move rfl) ?_
        refine JM.takeF 12 (.inr (fun _ h => h)) rfl (by kernel_rfl) rfl rfl rfl (m' := 4863) rfl (Pur.move rfl) ?_
        refine JM.one (i := 8) (by kernel_rfl) ?_
        refine JMi.eff rfl rfl rfl rfl (m' := 5119) rfl (Pur.eff (Pur.load rfl (CellIn.blk rfl))) ?_
        rintro _ _ ⟨rfl, rfl⟩
        refine ⟨.inr (fun _ h => h), ?_⟩
        refine JM.one (i := 10) (by kernel_rfl) ?_
        refine JMi.eff rfl rfl rfl rfl (m' := 6143) rfl (Pur.eff (Pur.idx rfl rfl rfl (by first | rfl | (simp; done) | omega | (rw [List.length_zip]; omega) | (rw [natI_len]; omega)) rfl (by rw [List.length_zip]; omega))) ?_
        rintro _ _ ⟨rfl, rfl⟩
        refine ⟨.inr (fun _ h => h), ?_⟩
        refine JM.one (i := 11) (by kernel_rfl) ?_
        refine JMi.eff rfl rfl rfl rfl (m' := 8191) rfl (Pur.eff (Pur.load rfl (CellIn.el0 rfl hzg rfl))) ?_
        rintro _ _ ⟨rfl, rfl⟩
        refine ⟨.inr (fun _ h => h), ?_⟩
        refine JM.setv (u' := .slice hd.1 (rgot X i).length hd.2) 78 rfl rfl ?_
        refine JM.take 13 (fun _ h => h) rfl (by kernel_rfl) rfl rfl rfl (m' := 16383) rfl (Pur.idx rfl rfl rfl (by first | rfl | (simp; done) | omega | (rw [List.length_zip]; omega) | (rw [natI_len]; omega)) rfl hql) ?_
        refine JM.take 14 (fun _ h => h) rfl (by kernel_rfl) rfl rfl rfl (m' := 32767) rfl (Pur.fieldAddr rfl) ?_
        refine JM.take 15 (fun _ h => h) rfl (by kernel_rfl) rfl rfl rfl (m' := 65535) rfl (Pur.load rfl (CellIn.el rfl hM rfl)) ?_
        refine JM.setv (u' := .int .i64 m.v) 82 rfl rfl ?_
        refine JM.one (i := 16) (by kernel_rfl) ?_
        refine JMi.eff rfl rfl rfl rfl (m' := 131071) rfl (Eff.buildSlice intE [(seekC X.op c ((rgot X i).take q) a).1, m.v] rfl rfl rfl rfl rfl rfl rfl) ?_
        rintro _ _ ⟨b83, rfl, -, rfl⟩
        refine ⟨.inr (fun _ h => h.tail), ?_⟩
        refine JM.one (i := 17) (by kernel_rfl) ?_
        refine JMi.effR (fun _ h => h.tail) rfl rfl rfl rfl (m' := 262143) rfl (Eff.call rfl (rOp2_ok (op := X.op) (a := (seekC X.op c ((rgot X i).take q) a).1) (b := m.v) ho rfl)) ?_
        refine JM.takeF 18 (.inl (by kernel_rfl)) rfl (by kernel_rfl) rfl rfl rfl (m' := 524287) rfl (Pur.move rfl) ?_
        refine JM.takeF 19 (.inl (by kernel_rfl)) rfl (by kernel_rfl) rfl rfl rfl (m' := 1048575) rfl (Pur.extract rfl rfl) ?_
        refine JM.takeF 20 (.inl (by kernel_rfl)) rfl (by kernel_rfl) rfl rfl rfl (m' := 2097151) rfl (Pur.extract rfl rfl) ?_
        refine JM.takeF 21 (.inl (by kernel_rfl)) rfl (by kernel_rfl) rfl rfl rfl (m' := 4194303) rfl (Pur.extract rfl rfl) ?_
        refine JM.takeF 22 (.inl (by kernel_rfl)) rfl (by kernel_rfl) rfl rfl rfl (m' := 8388607) rfl (Pur.assign rfl) ?_
        refine JM.done rfl ?_
        refine J.region rfl ?_
        refine JO.pur rfl rfl rfl (Pur.assign rfl) ?_
        refine JO.nil ?_
        refine J.inBlock ?_
        refine J.region rfl ?_
        refine JO.pur rfl rfl rfl (Pur.move rfl) ?_
        refine JO.pur rfl rfl rfl (Pur.add rfl rfl (wr64 (by omega))) ?_
        refine JO.pur rfl rfl rfl (Pur.assign rfl) ?_
        refine JO.nil ?_
        exact J.weaken (.cons rfl (by rw [hsn, if_pos hrd]; rfl) (.cons rfl (by rw [hsn, if_pos hrd]) (.cons rfl (congrArg (Value.int .i64) (by first | rfl | (dsimp only; omega))) (.cons rfl rfl (.cons rfl rfl (.cons rfl rfl (.cons rfl rfl .nil))))))) (fun h s => SubC.out h s) (ihq (q + 1) (by omega) (by omega))
      · try simp only [bSimp, bSimp2, ne_eq] at h65
        have hrd : ¬ m.fr = c := by omega
        refine J.condF rfl rfl ?_
        refine J.skip rfl ?_
        refine J.inBlock ?_
        refine J.region rfl ?_
        refine JO.pur rfl rfl rfl (Pur.move rfl) ?_
        refine JO.pur rfl rfl rfl (Pur.add rfl rfl (wr64 (by omega))) ?_
        refine JO.pur rfl rfl rfl (Pur.assign rfl) ?_
        refine JO.nil ?_
        exact J.weaken (.cons rfl (by rw [hsn, if_neg hrd]) (.cons rfl (by rw [hsn, if_neg hrd]) (.cons rfl (congrArg (Value.int .i64) (by first | rfl | (dsimp only; omega))) (.cons rfl rfl (.cons rfl rfl (.cons rfl rfl (.cons rfl rfl .nil))))))) (fun h s => SubC.out h s) (ihq (q + 1) (by omega) (by omega))
    · try simp only [bSimp, bSimp2, ne_eq] at h47
      have hqe : q = (rgot X i).length := by omega
      refine J.condF rfl rfl ?_
      refine J.exit rfl rfl ?_
      refine J.seq rfl ?_
      refine J.region rfl ?_
      refine JO.pur rfl rfl rfl (Pur.move rfl) ?_
      refine JO.pur rfl rfl rfl (Pur.not rfl) ?_
      refine JO.nil ?_
      refine J.splitB 89 rfl (fun h89 => ?_) (fun h89 => ?_)
      · try simp only [bSimp, bSimp2, ne_eq] at h89
        have hnf : ¬ (seekC X.op c (rgot X i) a).2 = true := by rw [hqe, List.take_length] at h89; simpa using h89
        have hres : combR X i = X := by unfold combR; rw [← hCH, ← hcol, hcl, if_neg hnf]
        refine J.condT rfl rfl ?_
        refine J.ret rfl rfl ?_
        refine ⟨_, _, ⟨rfl, rfl⟩, rfl, fun h s => ?_⟩
        rw [hres]
        have s5 : Sat h (blk p (rC X.kind X.op X.root X.sum.length sa sc ha X.has.length hc ga X.got.length gc ra X.rnd.length rc ba X.beg.length bc fa X.fly.length fc X.sent) :: sl intE sa sc X.sum :: sl boE ha hc X.has :: sl grE ga gc (hs.zip X.got) :: gA hd (rgot X i) :: zwBut gA i hs X.got :: sl natE ra rc X.rnd :: sl boE ba bc X.beg :: slQ rmE fa fc X.fly :: L) := SubC.out h s
        have key : ∀ h, Sat h (blk p (rC X.kind X.op X.root X.sum.length sa sc ha X.has.length hc ga X.got.length gc ra X.rnd.length rc ba X.beg.length bc fa X.fly.length fc X.sent) :: sl intE sa sc X.sum :: sl boE ha hc X.has :: sl grE ga gc (hs.zip X.got) :: gA hd (rgot X i) :: zwBut gA i hs X.got :: sl natE ra rc X.rnd :: sl boE ba bc X.beg :: slQ rmE fa fc X.fly :: L) → Sat h (RB p X :: L) := (fun h s => RB_mk (R := X) (L := L) ⟨sa, sc, ha, hc, ga, gc, ra, rc, ba, bc, fa, fc, hs⟩ hb (show Sat h (blk p (rC X.kind X.op X.root X.sum.length sa sc ha X.has.length hc ga X.got.length gc ra X.rnd.length rc ba X.beg.length bc fa X.fly.length fc X.sent) :: sl intE sa sc X.sum :: sl boE ha hc X.has :: sl grE ga gc (hs.zip X.got) :: star (List.zipWith gA hs X.got) :: sl natE ra rc X.rnd :: sl boE ba bc X.beg :: slQ rmE fa fc X.fly :: L) from (by have s2 := zw_put (A := gA) (r' := hd) (c' := rgot X i) hbi hgi (SubC.out (M := gA hd (rgot X i) :: zwBut gA i hs X.got :: blk p (rC X.kind X.op X.root X.sum.length sa sc ha X.has.length hc ga X.got.length gc ra X.rnd.length rc ba X.beg.length bc fa X.fly.length fc X.sent) :: sl intE sa sc X.sum :: sl boE ha hc X.has :: sl grE ga gc (hs.zip X.got) :: sl natE ra rc X.rnd :: sl boE ba bc X.beg :: slQ rmE fa fc X.fly :: L) h s); rw [list_set_same hbi, list_set_same hgi] at s2; exact (SubC.out (M := blk p (rC X.kind X.op X.root X.sum.length sa sc ha X.has.length hc ga X.got.length gc ra X.rnd.length rc ba X.beg.length bc fa X.fly.length fc X.sent) :: sl intE sa sc X.sum :: sl boE ha hc X.has :: sl grE ga gc (hs.zip X.got) :: star (List.zipWith gA hs X.got) :: sl natE ra rc X.rnd :: sl boE ba bc X.beg :: slQ rmE fa fc X.fly :: L) h s2))))
        exact key h s5
      · try simp only [bSimp, bSimp2, ne_eq] at h89
        have hfd : (seekC X.op c (rgot X i) a).2 = true := by rw [hqe, List.take_length] at h89; simpa using h89
        have hcol2 : colR X.op (rgot X i) (CH.drop (k + 1)) (seekC X.op c (rgot X i) a).1 = colR X.op (rgot X i) CH (rsum X i) := by rw [← hcol, hcl, if_pos hfd]
        refine J.condF rfl rfl ?_
        refine J.skip rfl ?_
        refine J.inBlock ?_
        refine J.region rfl ?_
        refine JO.pur rfl rfl rfl (Pur.move rfl) ?_
        refine JO.pur rfl rfl rfl (Pur.add rfl rfl (wr64 (by omega))) ?_
        refine JO.pur rfl rfl rfl (Pur.assign rfl) ?_
        refine JO.nil ?_
        exact J.weaken (.cons rfl (by rw [hqe, List.take_length]) (.cons rfl (congrArg (Value.int .i64) (by first | rfl | (dsimp only; omega))) (.cons rfl rfl (.cons rfl rfl (.cons rfl rfl .nil))))) (fun h s => SubC.out h s) (ihk (k + 1, (seekC X.op c (rgot X i) a).1) ⟨by dsimp only; omega, hcol2⟩ (by dsimp only; omega))
  · try simp only [bSimp, bSimp2, ne_eq] at h35
    have hnl := natI_len CH
    have hke : k = CH.length := by omega
    have hfin : colR X.op (rgot X i) CH (rsum X i) = some a := by rw [← hcol, hke, List.drop_length]; rfl
    refine J.condF rfl rfl ?_
    refine J.exit rfl rfl ?_
    refine J.seq rfl ?_
    refine J.seq rfl ?_
    refine J.region rfl ?_
    refine JO.pur rfl rfl rfl (Pur.move rfl) ?_
    refine JO.pur rfl rfl rfl (Pur.move rfl) ?_
    refine JO.pur rfl rfl rfl (Pur.nilCheck rfl) ?_
    refine JO.pur rfl rfl rfl (Pur.fieldAddr rfl) ?_
    refine JO.pur rfl rfl rfl (Pur.load rfl (CellIn.blk rfl)) ?_
    refine JO.pur rfl rfl rfl (Pur.neqI rfl rfl) ?_
    refine JO.nil ?_
    refine J.splitB 95 rfl (fun h95 => ?_) (fun h95 => ?_)
    · try simp only [bSimp, bSimp2, ne_eq] at h95
      have hne : ¬ i = rrt X := by unfold rrt; omega
      have hres : combR X i = sendR X ⟨i, parP X.sum.length (rrt X) i, 0, a, false⟩ := by unfold combR; rw [← hCH, hfin]; exact if_pos hne
      have hpv : (parV ((X.sum.length : Nat) : Int) ((rrt X : Nat) : Int) (i : Int)).1 = ((parP X.sum.length (rrt X) i : Nat) : Int) ∧ (parV ((X.sum.length : Nat) : Int) ((rrt X : Nat) : Int) (i : Int)).2 = 0 := by unfold parV; rw [if_pos ⟨⟨by omega, by omega, by omega, by omega, by omega, by omega⟩, by omega⟩]; exact ⟨rfl, rfl⟩
      refine J.condT rfl rfl ?_
      refine J.seq rfl ?_
      refine J.quiet rfl Try.mixed (by kernel_rfl) ?_
      refine JQ.pur rfl rfl rfl (Pur.move rfl) ?_
      refine JQ.pur rfl rfl rfl (Pur.nilCheck rfl) ?_
      refine JQ.pur rfl rfl rfl (Pur.fieldAddr rfl) ?_
      refine JQ.pur rfl rfl rfl (Pur.load rfl (CellIn.blk rfl)) ?_
      refine JQ.setv (u' := .int .i64 ((X.sum.length : Nat) : Int)) 100 rfl rfl ?_
      refine JQ.pur rfl rfl rfl (Pur.move rfl) ?_
      refine JQ.pur rfl rfl rfl (Pur.nilCheck rfl) ?_
      refine JQ.pur rfl rfl rfl (Pur.fieldAddr rfl) ?_
      refine JQ.pur rfl rfl rfl (Pur.load rfl (CellIn.blk rfl)) ?_
      refine JQ.setv (u' := .int .i64 ((rrt X : Nat) : Int)) 104 rfl (congrArg (Value.int .i64) (by unfold rrt; exact (Int.toNat_of_nonneg hr0).symm)) ?_
      refine JQ.pur rfl rfl rfl (Pur.move rfl) ?_
      refine JQ.callE rfl rfl rfl (rParent_ok (n := ((X.sum.length : Nat) : Int)) (root := ((rrt X : Nat) : Int)) (q := (i : Int))) ?_
      rw [hpv.1, hpv.2]
      refine JQ.pur rfl rfl rfl (Pur.move rfl) ?_
      refine JQ.pur rfl rfl rfl (Pur.extract rfl rfl) ?_
      refine JQ.pur rfl rfl rfl (Pur.extract rfl rfl) ?_
      refine JQ.pur rfl rfl rfl (Pur.assign rfl) ?_
      refine JQ.pur rfl rfl rfl (Pur.assign rfl) ?_
      refine JQ.nil ?_
      refine J.seq rfl ?_
      refine J.region rfl ?_
      refine JO.pur rfl rfl rfl (Pur.move rfl) ?_
      refine JO.pur rfl rfl rfl (Pur.move rfl) ?_
      refine JO.pur rfl rfl rfl (Pur.move rfl) ?_
      refine JO.pur rfl rfl rfl (Pur.move rfl) ?_
      refine JO.pur rfl rfl rfl (Pur.build (cs := [_, _, _, _, _]) rfl rfl) ?_
      refine JO.imp (M := RB p X :: L) (fun h s => by have s5 : Sat h (blk p (rC X.kind X.op X.root X.sum.length sa sc ha X.has.length hc ga X.got.length gc ra X.rnd.length rc ba X.beg.length bc fa X.fly.length fc X.sent) :: sl intE sa sc X.sum :: sl boE ha hc X.has :: sl grE ga gc (hs.zip X.got) :: gA hd (rgot X i) :: zwBut gA i hs X.got :: sl natE ra rc X.rnd :: sl boE ba bc X.beg :: slQ rmE fa fc X.fly :: L) := SubC.out h s; have key : ∀ h, Sat h (blk p (rC X.kind X.op X.root X.sum.length sa sc ha X.has.length hc ga X.got.length gc ra X.rnd.length rc ba X.beg.length bc fa X.fly.length fc X.sent) :: sl intE sa sc X.sum :: sl boE ha hc X.has :: sl grE ga gc (hs.zip X.got) :: gA hd (rgot X i) :: zwBut gA i hs X.got :: sl natE ra rc X.rnd :: sl boE ba bc X.beg :: slQ rmE fa fc X.fly :: L) → Sat h (RB p X :: L) := (fun h s => RB_mk (R := X) (L := L) ⟨sa, sc, ha, hc, ga, gc, ra, rc, ba, bc, fa, fc, hs⟩ hb (show Sat h (blk p (rC X.kind X.op X.root X.sum.length sa sc ha X.has.length hc ga X.got.length gc ra X.rnd.length rc ba X.beg.length bc fa X.fly.length fc X.sent) :: sl intE sa sc X.sum :: sl boE ha hc X.has :: sl grE ga gc (hs.zip X.got) :: star (List.zipWith gA hs X.got) :: sl natE ra rc X.rnd :: sl boE ba bc X.beg :: slQ rmE fa fc X.fly :: L) from (by have s2 := zw_put (A := gA) (r' := hd) (c' := rgot X i) hbi hgi (SubC.out (M := gA hd (rgot X i) :: zwBut gA i hs X.got :: blk p (rC X.kind X.op X.root X.sum.length sa sc ha X.has.length hc ga X.got.length gc ra X.rnd.length rc ba X.beg.length bc fa X.fly.length fc X.sent) :: sl intE sa sc X.sum :: sl boE ha hc X.has :: sl grE ga gc (hs.zip X.got) :: sl natE ra rc X.rnd :: sl boE ba bc X.beg :: slQ rmE fa fc X.fly :: L) h s); rw [list_set_same hbi, list_set_same hgi] at s2; exact (SubC.out (M := blk p (rC X.kind X.op X.root X.sum.length sa sc ha X.has.length hc ga X.got.length gc ra X.rnd.length rc ba X.beg.length bc fa X.fly.length fc X.sent) :: sl intE sa sc X.sum :: sl boE ha hc X.has :: sl grE ga gc (hs.zip X.got) :: star (List.zipWith gA hs X.got) :: sl natE ra rc X.rnd :: sl boE ba bc X.beg :: slQ rmE fa fc X.fly :: L) h s2)))); exact key h s5) ?_
      refine JO.eff rfl rfl rfl (Eff.call rfl (rsend_ok (X := X) (m := ⟨i, parP X.sum.length (rrt X) i, 0, a, false⟩) hw (by omega))) ?_
      rintro _ _ ⟨rfl, rfl⟩
      refine JO.nil ?_
      refine J.ret rfl rfl ?_
      refine ⟨_, _, ⟨rfl, rfl⟩, rfl, fun h s => ?_⟩
      rw [hres]
      exact SubC.out h s
    · try simp only [bSimp, bSimp2, ne_eq] at h95
      have hne : i = rrt X := by unfold rrt; omega
      refine J.condF rfl rfl ?_
      refine J.skip rfl ?_
      refine J.seq rfl ?_
      refine J.seq rfl ?_
      refine J.region rfl ?_
      refine JO.pur rfl rfl rfl (Pur.move rfl) ?_
      refine JO.pur rfl rfl rfl (Pur.nilCheck rfl) ?_
      refine JO.pur rfl rfl rfl (Pur.fieldAddr rfl) ?_
      refine JO.pur rfl rfl rfl (Pur.load rfl (CellIn.blk rfl)) ?_
      refine JO.pur rfl rfl rfl (Pur.eqlT rfl rfl) ?_
      refine JO.nil ?_
      refine J.splitB 119 rfl (fun h119 => ?_) (fun h119 => ?_)
      · try simp only [bSimp, bSimp2, ne_eq] at h119
        have hres : combR X i = setHas (setSum X i a) i true := by unfold combR; rw [← hCH, hfin]; show (if ¬ i = rrt X then _ else _) = _; rw [if_neg (not_not_intro hne), if_pos (show X.kind = sRed from h119)]
        refine J.condT rfl rfl ?_
        refine J.seq rfl ?_
        refine J.mask0 (n := 15) [12, 14] rfl Try.mixed rfl (by kernel_rfl) ?_
        refine JM.take 0 (fun _ h => h) rfl (by kernel_rfl) rfl rfl rfl (m' := 1) rfl (Pur.move rfl) ?_
        refine JM.take 1 (fun _ h => h) rfl (by kernel_rfl) rfl rfl rfl (m' := 3) rfl (Pur.nilCheck rfl) ?_
        refine JM.take 2 (fun _ h => h) rfl (by kernel_rfl) rfl rfl rfl (m' := 7) rfl (Pur.fieldAddr rfl) ?_
        refine JM.take 3 (fun _ h => h) rfl (by kernel_rfl) rfl rfl rfl (m' := 15) rfl (Pur.load rfl (CellIn.blk rfl)) ?_
        refine JM.take 4 (fun _ h => h) rfl (by kernel_rfl) rfl rfl rfl (m' := 31) rfl (Pur.move rfl) ?_
        refine JM.take 5 (fun _ h => h) rfl (by kernel_rfl) rfl rfl rfl (m' := 63) rfl (Pur.move rfl) ?_
        refine JM.take 6 (fun _ h => h) rfl (by kernel_rfl) rfl rfl rfl (m' := 127) rfl (Pur.nilCheck rfl) ?_
        refine JM.take 7 (fun _ h => h) rfl (by kernel_rfl) rfl rfl rfl (m' := 255) rfl (Pur.fieldAddr rfl) ?_
        refine JM.take 8 (fun _ h => h) rfl (by kernel_rfl) rfl rfl rfl (m' := 511) rfl (Pur.load rfl (CellIn.blk rfl)) ?_
        refine JM.takeF 9 (.inr (fun _ h => h)) rfl (by kernel_rfl) rfl rfl rfl (m' := 1023) rfl (Pur.move rfl) ?_
        refine JM.take 10 (fun _ h => h) rfl (by kernel_rfl) rfl rfl rfl (m' := 2047) rfl (Pur.move rfl) ?_
        refine JM.take 11 (fun _ h => h) rfl (by kernel_rfl) rfl rfl rfl (m' := 4095) rfl (Pur.idx rfl rfl rfl (by first | rfl | (simp; done) | omega | (rw [List.length_zip]; omega) | (rw [natI_len]; omega)) rfl (by rw [wls]; exact hi)) ?_
        refine JM.one (i := 12) (by kernel_rfl) ?_
        refine JMi.effN rfl rfl rfl (m' := 8191) rfl (Eff.storeS0 (z' := a) rfl rfl rfl rfl (getD_get 0 (by rw [wls]; exact hi)) .head) ?_
        rintro _ _ ⟨rfl, rfl⟩
        refine ⟨.inl (by simp), ?_⟩
        refine JM.one (i := 13) (by kernel_rfl) ?_
        refine JMi.eff rfl rfl rfl rfl (m' := 16383) rfl (Pur.eff (Pur.idx rfl rfl rfl (by first | rfl | (simp; done) | omega | (rw [List.length_zip]; omega) | (rw [natI_len]; omega)) rfl (by rw [wlh]; exact hi))) ?_
        rintro _ _ ⟨rfl, rfl⟩
        refine ⟨.inl (.inr (by kernel_rfl)), ?_⟩
        refine JM.one (i := 14) (by kernel_rfl) ?_
        refine JMi.effN rfl rfl rfl (m' := 32767) rfl (Eff.storeS0 (z' := true) rfl rfl rfl rfl (getD_get false (by rw [wlh]; exact hi)) .head) ?_
        rintro _ _ ⟨rfl, rfl⟩
        refine ⟨.inl (by simp), ?_⟩
        refine JM.done rfl ?_
        refine J.ret rfl rfl ?_
        refine ⟨_, _, ⟨rfl, rfl⟩, rfl, fun h s => ?_⟩
        rw [hres]
        have s5 : Sat h (blk p (rC X.kind X.op X.root (X.sum.set i a).length sa sc ha (X.has.set i true).length hc ga X.got.length gc ra X.rnd.length rc ba X.beg.length bc fa X.fly.length fc X.sent) :: sl intE sa sc (X.sum.set i a) :: sl boE ha hc (X.has.set i true) :: sl grE ga gc (hs.zip X.got) :: gA hd (rgot X i) :: zwBut gA i hs X.got :: sl natE ra rc X.rnd :: sl boE ba bc X.beg :: slQ rmE fa fc X.fly :: L) := by have e1 : X.sum.length = (X.sum.set i a).length := (by simp); have e2 : X.has.length = (X.has.set i true).length := (by simp); rw [← e1, ← e2]; exact SubC.out h s
        have key : ∀ h, Sat h (blk p (rC X.kind X.op X.root (X.sum.set i a).length sa sc ha (X.has.set i true).length hc ga X.got.length gc ra X.rnd.length rc ba X.beg.length bc fa X.fly.length fc X.sent) :: sl intE sa sc (X.sum.set i a) :: sl boE ha hc (X.has.set i true) :: sl grE ga gc (hs.zip X.got) :: gA hd (rgot X i) :: zwBut gA i hs X.got :: sl natE ra rc X.rnd :: sl boE ba bc X.beg :: slQ rmE fa fc X.fly :: L) → Sat h (RB p (setHas (setSum X i a) i true) :: L) := (fun h s => RB_mk (R := (setHas (setSum X i a) i true)) (L := L) ⟨sa, sc, ha, hc, ga, gc, ra, rc, ba, bc, fa, fc, hs⟩ hb (show Sat h (blk p (rC X.kind X.op X.root (X.sum.set i a).length sa sc ha (X.has.set i true).length hc ga X.got.length gc ra X.rnd.length rc ba X.beg.length bc fa X.fly.length fc X.sent) :: sl intE sa sc (X.sum.set i a) :: sl boE ha hc (X.has.set i true) :: sl grE ga gc (hs.zip X.got) :: star (List.zipWith gA hs X.got) :: sl natE ra rc X.rnd :: sl boE ba bc X.beg :: slQ rmE fa fc X.fly :: L) from (by have s2 := zw_put (A := gA) (r' := hd) (c' := rgot X i) hbi hgi (SubC.out (M := gA hd (rgot X i) :: zwBut gA i hs X.got :: blk p (rC X.kind X.op X.root (X.sum.set i a).length sa sc ha (X.has.set i true).length hc ga X.got.length gc ra X.rnd.length rc ba X.beg.length bc fa X.fly.length fc X.sent) :: sl intE sa sc (X.sum.set i a) :: sl boE ha hc (X.has.set i true) :: sl grE ga gc (hs.zip X.got) :: sl natE ra rc X.rnd :: sl boE ba bc X.beg :: slQ rmE fa fc X.fly :: L) h s); rw [list_set_same hbi, list_set_same hgi] at s2; exact (SubC.out (M := blk p (rC X.kind X.op X.root (X.sum.set i a).length sa sc ha (X.has.set i true).length hc ga X.got.length gc ra X.rnd.length rc ba X.beg.length bc fa X.fly.length fc X.sent) :: sl intE sa sc (X.sum.set i a) :: sl boE ha hc (X.has.set i true) :: sl grE ga gc (hs.zip X.got) :: star (List.zipWith gA hs X.got) :: sl natE ra rc X.rnd :: sl boE ba bc X.beg :: slQ rmE fa fc X.fly :: L) h s2))))
        exact key h s5
      · try simp only [bSimp, bSimp2, ne_eq] at h119
        have hres : combR X i = castR X i a := by unfold combR; rw [← hCH, hfin]; show (if ¬ i = rrt X then _ else _) = _; rw [if_neg (not_not_intro hne), if_neg (show ¬ X.kind = sRed from h119)]
        refine J.condF rfl rfl ?_
        refine J.skip rfl ?_
        refine J.region rfl ?_
        refine JO.pur rfl rfl rfl (Pur.move rfl) ?_
        refine JO.pur rfl rfl rfl (Pur.move rfl) ?_
        refine JO.pur rfl rfl rfl (Pur.move rfl) ?_
        refine JO.imp (M := RB p X :: L) (fun h s => by have s5 : Sat h (blk p (rC X.kind X.op X.root X.sum.length sa sc ha X.has.length hc ga X.got.length gc ra X.rnd.length rc ba X.beg.length bc fa X.fly.length fc X.sent) :: sl intE sa sc X.sum :: sl boE ha hc X.has :: sl grE ga gc (hs.zip X.got) :: gA hd (rgot X i) :: zwBut gA i hs X.got :: sl natE ra rc X.rnd :: sl boE ba bc X.beg :: slQ rmE fa fc X.fly :: L) := SubC.out h s; have key : ∀ h, Sat h (blk p (rC X.kind X.op X.root X.sum.length sa sc ha X.has.length hc ga X.got.length gc ra X.rnd.length rc ba X.beg.length bc fa X.fly.length fc X.sent) :: sl intE sa sc X.sum :: sl boE ha hc X.has :: sl grE ga gc (hs.zip X.got) :: gA hd (rgot X i) :: zwBut gA i hs X.got :: sl natE ra rc X.rnd :: sl boE ba bc X.beg :: slQ rmE fa fc X.fly :: L) → Sat h (RB p X :: L) := (fun h s => RB_mk (R := X) (L := L) ⟨sa, sc, ha, hc, ga, gc, ra, rc, ba, bc, fa, fc, hs⟩ hb (show Sat h (blk p (rC X.kind X.op X.root X.sum.length sa sc ha X.has.length hc ga X.got.length gc ra X.rnd.length rc ba X.beg.length bc fa X.fly.length fc X.sent) :: sl intE sa sc X.sum :: sl boE ha hc X.has :: sl grE ga gc (hs.zip X.got) :: star (List.zipWith gA hs X.got) :: sl natE ra rc X.rnd :: sl boE ba bc X.beg :: slQ rmE fa fc X.fly :: L) from (by have s2 := zw_put (A := gA) (r' := hd) (c' := rgot X i) hbi hgi (SubC.out (M := gA hd (rgot X i) :: zwBut gA i hs X.got :: blk p (rC X.kind X.op X.root X.sum.length sa sc ha X.has.length hc ga X.got.length gc ra X.rnd.length rc ba X.beg.length bc fa X.fly.length fc X.sent) :: sl intE sa sc X.sum :: sl boE ha hc X.has :: sl grE ga gc (hs.zip X.got) :: sl natE ra rc X.rnd :: sl boE ba bc X.beg :: slQ rmE fa fc X.fly :: L) h s); rw [list_set_same hbi, list_set_same hgi] at s2; exact (SubC.out (M := blk p (rC X.kind X.op X.root X.sum.length sa sc ha X.has.length hc ga X.got.length gc ra X.rnd.length rc ba X.beg.length bc fa X.fly.length fc X.sent) :: sl intE sa sc X.sum :: sl boE ha hc X.has :: sl grE ga gc (hs.zip X.got) :: star (List.zipWith gA hs X.got) :: sl natE ra rc X.rnd :: sl boE ba bc X.beg :: slQ rmE fa fc X.fly :: L) h s2)))); exact key h s5) ?_
        refine JO.eff rfl rfl rfl (Eff.call rfl (rcast_ok (X := X) (i := i) (z := a) hw hr0 hr1 hi (by omega))) ?_
        rintro _ _ ⟨rfl, rfl⟩
        refine JO.nil ?_
        refine J.fin rfl ?_
        refine ⟨_, _, ⟨rfl, rfl⟩, rfl, fun h s => ?_⟩
        rw [hres]
        exact SubC.out h s

end Go.Proofs.Ytoikjjpleonllaa

/- The text RSim. -/
set_option linter.unusedVariables false
set_option linter.unusedSimpArgs false
/-! The document's collective goes on as the program's one does. -/
namespace Rg
open Go Go.KK Gr Go.Proofs.Ytoikjjpleonllaa
def Bx (k o : ByteArray) (x : Int) : Prop := (o = ⟨#[38]⟩ ∨ o = ⟨#[124]⟩) → ¬ k = sCast → x = 0 ∨ x = 1
theorem Bx.op {k o : ByteArray} (ho : okOp o) (hk : ¬ k = sCast) {a b : Int} (h1 : Bx k o a) (h2 : Bx k o b) : rOp o a b = opV o a b ∧ Bx k o (opV o a b) := by
  have h := rOp_eq ho (a := a) (b := b) fun g => ⟨h1 g hk, h2 g hk⟩
  exact ⟨h.1, fun g _ => h.2 g⟩
def toR (k : ByteArray) (m : Ms) : Rm := ⟨m.fr, m.to, m.rd, m.v, !m.up && !decide (k = sScan)⟩
def keyR (k : ByteArray) (m : Rm) : Nat := if k = sScan then m.rd else m.fr
def fiv (k : ByteArray) (l : List Rm) (c : Nat) : List Int := (l.filter fun m => decide (keyR k m = c)).map (·.v)
structure Sim (n : Nat) (g : Gs) (R : Rs) : Prop where
  gn : g.ms.length = n
  w : WR n R
  wg : wf g
  ok : okOp g.op
  kd : R.kind = g.kind
  op : R.op = g.op
  root : R.root = g.root
  sent : R.sent = g.sent
  fly : R.fly = g.fly.map (toR g.kind)
  has : ∀ p, p < n → rhas R p = (mem g p).has
  sum : ∀ p, p < n → rsum R p = if (mem g p).has = true then (mem g p).res else (mem g p).v
  rnd : ∀ p, p < n → rrnd R p = (mem g p).r
  got : ∀ p, p < n → ∀ c : Nat, fiv g.kind (rgot R p) c = (lookI (mem g p).got (c : Int)).toList
  v01 : ∀ p, p < n → Bx g.kind g.op (mem g p).v
  g01 : ∀ p, p < n → ∀ c : Nat, ∀ s, lookI (mem g p).got (c : Int) = some s → Bx g.kind g.op s
  f01 : ∀ m ∈ g.fly, Bx g.kind g.op m.v
section
variable {n : Nat} {g : Gs} {R : Rs}
theorem Sim.put (h : Sim n g R) {m : Ms} (hm : m.to < n ∧ m.fr < n ∧ m.rd ≤ 3) (hb : Bx g.kind g.op m.v) : Sim n (put g m) (sendR R (toR g.kind m)) :=
  ⟨h.gn, h.w.send hm.1, wf_put h.wg (by rw [h.gn]; exact hm), h.ok, h.kd, h.op, h.root, by show wr (R.sent + 1) = wr (g.sent + 1); rw [h.sent], by show R.fly ++ [_] = (g.fly ++ [m]).map _; rw [h.fly, List.map_append]; rfl, h.has, h.sum, h.rnd, h.got, h.v01, h.g01, fun x hx => by
    rcases List.mem_append.1 hx with hx | hx
    · exact h.f01 x hx
    · rw [List.mem_singleton.1 hx]; exact hb⟩
theorem Sim.take (h : Sim n g R) (k : Nat) : Sim n (takeM g k) (takeR R k) :=
  ⟨h.gn, h.w.take k, wf_take h.wg k, h.ok, h.kd, h.op, h.root, h.sent, by show R.fly.take k ++ R.fly.drop (k + 1) = (g.fly.take k ++ g.fly.drop (k + 1)).map _; rw [h.fly, List.map_append, List.map_take, List.map_drop]; rfl, h.has, h.sum, h.rnd, h.got, h.v01, h.g01, fun x hx => h.f01 x (by
    rcases List.mem_append.1 hx with hx | hx
    · exact List.mem_of_mem_take hx
    · exact List.mem_of_mem_drop hx)⟩
theorem rhas_set {p : Nat} (h : WR n R) (hp : p < n) (b : Bool) (q : Nat) : rhas (setHas R p b) q = if q = p then b else rhas R q := getD_set _ _ (by rw [h.lh]; exact hp) q
theorem rsum_set {p : Nat} (h : WR n R) (hp : p < n) (b : Int) (q : Nat) : rsum (setSum R p b) q = if q = p then b else rsum R q := getD_set _ _ (by rw [h.ls]; exact hp) q
theorem rgot_set {p : Nat} (h : WR n R) (hp : p < n) (b : List Rm) (q : Nat) : rgot (setGot R p b) q = if q = p then b else rgot R q := getD_set _ _ (by rw [h.lg]; exact hp) q
theorem rrnd_set {p : Nat} (h : WR n R) (hp : p < n) (b : Nat) (q : Nat) : rrnd (setRnd R p b) q = if q = p then b else rrnd R q := getD_set _ _ (by rw [h.lr]; exact hp) q
theorem rbeg_set {p : Nat} (h : WR n R) (hp : p < n) (b : Bool) (q : Nat) : rbeg (setBeg R p b) q = if q = p then b else rbeg R q := getD_set _ _ (by rw [h.lb]; exact hp) q
/-- A member's result. -/
theorem Sim.res (h : Sim n g R) {p : Nat} (hp : p < n) (z : Int) : Sim n (setM g p { mem g p with res := z, has := true }) (setHas (setSum R p z) p true) := by
  have hlp : p < g.ms.length := by rw [h.gn]; exact hp
  have h9 := h.wg.2.2.1 _ (mem_mem hlp)
  have hX := fun q => mem_setM (m := { mem g p with res := z, has := true }) hlp q
  have hg : ∀ q, (mem (setM g p { mem g p with res := z, has := true }) q).got = (mem g q).got := fun q => by rw [hX]; split; (rename_i e; rw [e]); rfl
  have hv : ∀ q, (mem (setM g p { mem g p with res := z, has := true }) q).v = (mem g q).v := fun q => by rw [hX]; split; (rename_i e; rw [e]); rfl
  refine ⟨by rw [set_len]; exact h.gn, h.w.cast1 hp, wf_set h.wg h9, h.ok, h.kd, h.op, h.root, h.sent, h.fly, fun q hq => ?_, fun q hq => ?_, fun q hq => ?_, fun q hq c => ?_, fun q hq => ?_, fun q hq c s hs => ?_, h.f01⟩
  · rw [rhas_set (h.w.sum p z) hp, hX]; split
    · rfl
    · exact h.has q hq
  · show rsum (setSum R p z) q = _
    rw [rsum_set h.w hp, hX]; split
    · rfl
    · exact h.sum q hq
  · show rrnd R q = _
    rw [hX]; split
    · rename_i e; rw [e]; exact h.rnd p hp
    · exact h.rnd q hq
  · rw [hg]; exact h.got q hq c
  · rw [hv]; exact h.v01 q hq
  · rw [hg] at hs; exact h.g01 q hq c s hs
theorem Sim.pk (hk : ¬ g.kind = sScan) {p : Nat} (hp : p < n) {v : Int} (hb : Bx g.kind g.op v) : ∀ (cs : List Nat) {g' : Gs} {R : Rs}, g'.kind = g.kind → g'.op = g.op → Sim n g' R → (∀ c ∈ cs, c < n) → Sim n (pk g' p v cs) (pkR R p v cs)
  | [], _, _, _, _, h, _ => h
  | c :: cs, g', R, e1, e2, h, hc => by
    have h1 := h.put (m := ⟨p, c, v, false, 0⟩) ⟨hc c (List.mem_cons_self ..), hp, Nat.zero_le _⟩ (by rw [e1, e2]; exact hb)
    have e : toR g'.kind ⟨p, c, v, false, 0⟩ = ⟨p, c, 0, v, true⟩ := by unfold toR; rw [e1, decide_eq_false hk]; rfl
    rw [e] at h1
    exact Sim.pk hk hp hb cs (g' := Gr.put g' _) (R := sendR R _) e1 e2 h1 fun x hx => hc x (List.mem_cons_of_mem _ hx)
theorem Sim.rt (h : Sim n g R) : rrt R = rt g := by unfold rrt Gr.rt; rw [h.root]
theorem Sim.ch (h : Sim n g R) (p : Nat) : chP R.sum.length (rrt R) p = chG g p := by unfold chG; rw [h.w.ls, h.gn, h.rt]
theorem Sim.chn (h : Sim n g R) {p c : Nat} (hc : c ∈ chG g p) : c < n := by
  unfold chG at hc; rw [h.gn] at hc; exact ch_lt hc h.w.n1
theorem Sim.cast (h : Sim n g R) (hk : ¬ g.kind = sScan) {p : Nat} (hp : p < n) {v : Int} (hb : Bx g.kind g.op v) : Sim n (castG g p v) (castR R p v) := by
  unfold castG castR
  rw [h.ch]
  exact Sim.pk (g := g) hk hp hb _ (g' := setM g p _) rfl rfl (h.res hp v) fun c hc => h.chn hc
theorem seekC_fi (o : ByteArray) (c : Nat) (l : List Rm) (x : Int) : seekC o c l x = ((l.filter fun m => decide (m.fr = c)).map (·.v)).foldl (fun a v => (rOp o a.1 v, true)) (x, false) := by
  unfold seekC
  rw [List.foldl_map, List.foldl_filter]
  congr 1
  funext a m
  by_cases e : m.fr = c <;> simp [e]
theorem seekS_fi (o : ByteArray) (c : Nat) (l : List Rm) (x : Int) : seekS o c l x = ((l.filter fun m => decide (m.rd = c)).map (·.v)).foldl (fun a v => (rOp o v a.1, true)) (x, false) := by
  unfold seekS
  rw [List.foldl_map, List.foldl_filter]
  congr 1
  funext a m
  by_cases e : m.rd = c <;> simp [e]
theorem Sim.seekC (h : Sim n g R) (hk : ¬ g.kind = sScan) {p : Nat} (hp : p < n) (c : Nat) (x : Int) : Rg.seekC R.op c (rgot R p) x = match lookI (mem g p).got (c : Int) with | none => (x, false) | some s => (rOp g.op x s, true) := by
  have e := h.got p hp c
  rw [seekC_fi]
  simp only [fiv, keyR, if_neg hk] at e
  rw [e, h.op]
  cases lookI (mem g p).got (c : Int) <;> rfl
theorem Sim.seekS (h : Sim n g R) (hk : g.kind = sScan) {p : Nat} (hp : p < n) (c : Nat) (x : Int) : Rg.seekS R.op c (rgot R p) x = match lookI (mem g p).got (c : Int) with | none => (x, false) | some s => (rOp g.op s x, true) := by
  have e := h.got p hp c
  rw [seekS_fi]
  simp only [fiv, keyR, if_pos hk] at e
  rw [e, h.op]
  cases lookI (mem g p).got (c : Int) <;> rfl
/-- What a member's children have sent. -/
theorem Sim.col (h : Sim n g R) (hk : ¬ g.kind = sScan) (hc : ¬ g.kind = sCast) {p : Nat} (hp : p < n) : ∀ (cs : List Nat) (a : Int), Bx g.kind g.op a →
    (∀ c ∈ cs, ∃ s, lookI (mem g p).got (c : Int) = some s) → colR R.op (rgot R p) cs a = some (cs.foldl (fun a c => opV g.op a (getV (mem g p).got c)) a) ∧ Bx g.kind g.op (cs.foldl (fun a c => opV g.op a (getV (mem g p).got c)) a)
  | [], a, ha, _ => ⟨rfl, ha⟩
  | c :: cs, a, ha, hx => by
    obtain ⟨s, hs⟩ := hx c (List.mem_cons_self ..)
    have hb := Bx.op h.ok hc ha (h.g01 p hp c s hs)
    have e := h.seekC hk hp c a
    rw [hs] at e
    dsimp only at e
    have ih := Sim.col h hk hc hp cs (opV g.op a s) hb.2 fun x hx2 => hx x (List.mem_cons_of_mem _ hx2)
    have e2 : getV (mem g p).got c = s := by unfold getV; rw [hs]; rfl
    rw [List.foldl_cons, e2]
    refine ⟨?_, ih.2⟩
    unfold colR
    rw [e]
    dsimp only
    rw [if_pos rfl, hb.1]
    exact ih.1
theorem Sim.colN (h : Sim n g R) (hk : ¬ g.kind = sScan) {p : Nat} (hp : p < n) : ∀ (cs : List Nat) (a : Int),
    (∃ c ∈ cs, lookI (mem g p).got (c : Int) = none) → colR R.op (rgot R p) cs a = none
  | [], a, ⟨_, hx, _⟩ => by cases hx
  | c :: cs, a, ⟨x, hx, hn⟩ => by
    unfold colR
    have e := h.seekC hk hp c a
    rcases List.mem_cons.1 hx with rfl | hx
    · rw [hn] at e; rw [e]; rfl
    · have ih := fun a => Sim.colN h hk hp cs a ⟨x, hx, hn⟩
      split
      · exact ih _
      · rfl
/-- A member combines. -/
theorem Sim.comb (h : Sim n g R) (hk : ¬ g.kind = sScan) (hc : ¬ g.kind = sCast) {p : Nat} (hp : p < n) (hh : (mem g p).has = false) (hx : ∀ c ∈ chG g p, ∃ s, lookI (mem g p).got (c : Int) = some s) : Sim n (combG g p) (combR R p) := by
  obtain ⟨e1, e2⟩ := h.col hk hc hp (chG g p) (mem g p).v (h.v01 p hp) hx
  have e3 : rsum R p = (mem g p).v := by rw [h.sum p hp, hh]; rfl
  unfold combR
  rw [h.ch, e3, e1]
  dsimp only
  unfold combG accG
  have hrt := h.rt
  by_cases e : p = Gr.rt g
  · rw [if_neg (show ¬ ¬ p = rrt R from not_not_intro (e.trans hrt.symm)), if_neg (show ¬ ¬ p = Gr.rt g from not_not_intro e)]
    by_cases e4 : g.kind = sRed
    · rw [if_pos (show R.kind = sRed from h.kd.trans e4), if_pos e4]; exact h.res hp _
    · rw [if_neg (show ¬ R.kind = sRed by rw [h.kd]; exact e4), if_neg e4]; exact h.cast hk hp e2
  · rw [if_pos (show ¬ p = rrt R by rw [hrt]; exact e), if_pos e]
    have h1 := h.put (m := ⟨p, parP g.ms.length (Gr.rt g) p, (chG g p).foldl (fun a c => opV g.op a (getV (mem g p).got c)) (mem g p).v, true, 0⟩) ⟨by rw [h.gn]; exact par_lt h.w.n1, hp, Nat.zero_le _⟩ e2
    rw [show R.sum.length = g.ms.length from h.w.ls.trans h.gn.symm, hrt]
    exact h1
theorem Sim.combN (h : Sim n g R) (hk : ¬ g.kind = sScan) {p : Nat} (hp : p < n) (hx : ∃ c ∈ chG g p, lookI (mem g p).got (c : Int) = none) : combR R p = R := by
  unfold combR
  rw [h.ch, h.colN hk hp (chG g p) _ hx]
theorem fiv_snoc (k : ByteArray) (l : List Rm) (m : Rm) (c : Nat) : fiv k (l ++ [m]) c = fiv k l c ++ (if keyR k m = c then [m.v] else []) := by
  unfold fiv
  rw [List.filter_append, List.map_append]
  congr 1
  by_cases e : keyR k m = c
  · rw [if_pos e, List.filter_cons_of_pos (by simpa using e)]; rfl
  · rw [if_neg e, List.filter_cons_of_neg (by simpa using e)]; rfl
/-- A member has got something. -/
theorem Sim.gets (h : Sim n g R) {p : Nat} (hp : p < n) {m : Ms} {y : Nat} (hy : keyR g.kind (toR g.kind m) = y) (hb : Bx g.kind g.op m.v) (hl : lookI (mem g p).got (y : Int) = none) : Sim n (setM g p { mem g p with got := setI (mem g p).got (y : Int) m.v }) (setGot R p (rgot R p ++ [toR g.kind m])) := by
  have hlp : p < g.ms.length := by rw [h.gn]; exact hp
  have h9 := h.wg.2.2.1 _ (mem_mem hlp)
  have hX := fun q => mem_setM (m := { mem g p with got := setI (mem g p).got (y : Int) m.v }) hlp q
  refine ⟨by rw [set_len]; exact h.gn, h.w.got p _, wf_set h.wg h9, h.ok, h.kd, h.op, h.root, h.sent, h.fly, fun q hq => ?_, fun q hq => ?_, fun q hq => ?_, fun q hq c => ?_, fun q hq => ?_, fun q hq c s hs => ?_, h.f01⟩
  · show rhas R q = _
    rw [h.has q hq, hX]; split
    · rename_i e; rw [e]
    · rfl
  · show rsum R q = _
    rw [h.sum q hq, hX]
    by_cases e : q = p
    · rw [if_pos e, e]
    · rw [if_neg e]
  · show rrnd R q = _
    rw [h.rnd q hq, hX]; split
    · rename_i e; rw [e]
    · rfl
  · rw [rgot_set h.w hp, hX]
    by_cases e : q = p
    · rw [if_pos e, if_pos e]
      show fiv g.kind _ c = _
      rw [fiv_snoc, h.got p hp c]
      show _ = (lookI (setI (mem g p).got (y : Int) m.v) (c : Int)).toList
      rw [lookI_set, hy]
      by_cases e2 : y = c
      · rw [if_pos e2, if_pos (by rw [e2]), ← e2, hl]; rfl
      · rw [if_neg e2, if_neg (by omega), List.append_nil]
    · rw [if_neg e, if_neg e]; exact h.got q hq c
  · rw [hX]; split
    · exact h.v01 p hp
    · exact h.v01 q hq
  · rw [hX] at hs
    by_cases e : q = p
    · rw [if_pos e] at hs
      have hs : lookI (setI (mem g p).got (y : Int) m.v) (c : Int) = some s := hs
      rw [lookI_set] at hs
      split at hs
      · cases hs; exact hb
      · exact h.g01 p hp c s hs
    · rw [if_neg e] at hs; exact h.g01 q hq c s hs
/-- A round more. -/
theorem Sim.next (h : Sim n g R) {p : Nat} (hp : p < n) (hh : (mem g p).has = false) (hr : (mem g p).r ≤ 2) {z : Int} (hb : Bx g.kind g.op z) : Sim n (setM g p { mem g p with v := z, r := (mem g p).r + 1 }) (nextR (setSum R p z) p) := by
  have hlp : p < g.ms.length := by rw [h.gn]; exact hp
  have hX := fun q => mem_setM (m := { mem g p with v := z, r := (mem g p).r + 1 }) hlp q
  have w1 := h.w.sum p z
  have hrr := h.rnd p hp
  have w2 : WR n (setRnd (setSum R p z) p (rrnd (setSum R p z) p + 1)) := w1.rnd p (by show rrnd R p + 1 ≤ 3; omega)
  have hg : ∀ q, (mem (setM g p { mem g p with v := z, r := (mem g p).r + 1 }) q).got = (mem g q).got := fun q => by rw [hX]; split; (rename_i e; rw [e]); rfl
  refine ⟨by rw [set_len]; exact h.gn, w2.beg p false, wf_set h.wg (by dsimp only; omega), h.ok, h.kd, h.op, h.root, h.sent, h.fly, fun q hq => ?_, fun q hq => ?_, fun q hq => ?_, fun q hq c => ?_, fun q hq => ?_, fun q hq c s hs => ?_, h.f01⟩
  · show rhas R q = _
    rw [h.has q hq, hX]; split
    · rename_i e; rw [e]
    · rfl
  · show rsum (setSum R p z) q = _
    rw [rsum_set h.w hp, hX]
    by_cases e : q = p
    · rw [if_pos e, if_pos e, if_neg (by rw [hh]; decide)]
    · rw [if_neg e, if_neg e]; exact h.sum q hq
  · show rrnd (setRnd (setSum R p z) p (rrnd (setSum R p z) p + 1)) q = _
    rw [rrnd_set w1 hp, hX]
    by_cases e : q = p
    · rw [if_pos e, if_pos e]
      show rrnd R p + 1 = (mem g p).r + 1
      rw [hrr]
    · rw [if_neg e, if_neg e]; exact h.rnd q hq
  · rw [hg]; exact h.got q hq c
  · rw [hX]; split
    · exact hb
    · exact h.v01 q hq
  · rw [hg] at hs; exact h.g01 q hq c s hs
theorem Sim.begs (h : Sim n g R) (p : Nat) (b : Bool) : Sim n g (setBeg R p b) := ⟨h.gn, h.w.beg p b, h.wg, h.ok, h.kd, h.op, h.root, h.sent, h.fly, h.has, h.sum, h.rnd, h.got, h.v01, h.g01, h.f01⟩
theorem Sim.start (h : Sim n g R) (hk : g.kind = sScan) {p : Nat} (hp : p < n) (hh : (mem g p).has = false) (hb : rbeg R p = false) : Sim n (send g p) (if 2 ^ (mem g p).r < n then startR R p else R) := by
  have hr := h.rnd p hp
  have hs : rsum R p = (mem g p).v := by rw [h.sum p hp, hh]; rfl
  unfold send
  rw [h.gn]
  by_cases e : 2 ^ (mem g p).r < n
  · rw [if_pos e]
    unfold startR
    rw [if_neg (show ¬ rbeg R p = true by rw [hb]; decide), hr, h.w.ls]
    by_cases e2 : p + 2 ^ (mem g p).r < n
    · rw [if_pos e2, if_pos e2]
      have h1 := (h.begs p true).put (m := ⟨p, p + 2 ^ (mem g p).r, (mem g p).v, false, (mem g p).r⟩) ⟨e2, hp, h.wg.2.2.1 _ (mem_mem (by rw [h.gn]; exact hp))⟩ (h.v01 p hp)
      have e3 : toR g.kind ⟨p, p + 2 ^ (mem g p).r, (mem g p).v, false, (mem g p).r⟩ = ⟨p, p + 2 ^ (mem g p).r, (mem g p).r, rsum R p, false⟩ := by unfold toR; rw [hs, decide_eq_true hk]; rfl
      rw [e3] at h1
      exact h1
    · rw [if_neg e2, if_neg e2]; exact h.begs p true
  · rw [if_neg e, if_neg (show ¬ p + 2 ^ (mem g p).r < n by omega)]; exact h
theorem startR_beg (h : WR n R) {p : Nat} (hp : p < n) (q : Nat) : rbeg (startR R p) q = if q = p then true else rbeg R q := by
  unfold startR
  by_cases e : rbeg R p = true
  · rw [if_pos e]; split
    · rename_i e2; rw [e2]; exact e
    · rfl
  · rw [if_neg e]
    split
    · exact rbeg_set h hp true q
    · exact rbeg_set h hp true q
theorem nextR_beg (h : WR n R) {p : Nat} (hp : p < n) (q : Nat) : rbeg (nextR R p) q = if q = p then false else rbeg R q := by
  have : R.beg.length = n := h.lb
  exact getD_set _ _ (show p < R.beg.length by omega) q
/-- A member of a scan goes on. -/
theorem Sim.scan : ∀ (f : Nat) {g : Gs} {R : Rs} {p : Nat}, WR n R → g.kind = sScan → p < n → (mem g p).has = false → rrnd R p = (mem g p).r → (¬ 2 ^ (mem g p).r < n → rbeg R p = false) → Sim n g (if 2 ^ (mem g p).r < n then startR R p else R) → 4 ≤ f + (mem g p).r →
    Sim n (scan f g p) (scanR f R p) ∧ rbeg (scanR f R p) p = !(mem (Gr.scan f g p) p).has ∧ ∀ q, q ≠ p → rbeg (scanR f R p) q = rbeg R q ∧ mem (Gr.scan f g p) q = mem g q
  | 0, g, R, p, hw, hk, hp, hh, hrr, hb, h, hf => by have := h.wg.2.2.1 _ (mem_mem (show p < g.ms.length by rw [h.gn]; exact hp)); omega
  | f + 1, g, R, p, hw, hk, hp, hh, hrr, hb, h, hf => by
    have hlp : p < g.ms.length := by rw [h.gn]; exact hp
    by_cases hr : 2 ^ (mem g p).r < n
    · rw [if_pos hr] at h
      have hr' : 2 ^ (mem g p).r < g.ms.length := by rw [h.gn]; exact hr
      have hrR : 2 ^ rrnd R p < R.sum.length := by rw [hrr, hw.ls]; exact hr
      obtain ⟨s1, s2, s3, s4, s5, s6, s7, s8⟩ := startR_same R p
      have s1' : ∀ q, rsum (startR R p) q = rsum R q := fun q => by unfold rsum; rw [s1]
      have s3' : ∀ q, rgot (startR R p) q = rgot R q := fun q => by unfold rgot; rw [s3]
      have hhR : ¬ rhas R p = true := by
        have := h.has p hp
        rw [show rhas (startR R p) p = rhas R p by unfold rhas; rw [s2], hh] at this
        rw [this]; decide
      have hsum : rsum R p = (mem g p).v := by
        have := h.sum p hp
        rw [s1', hh] at this; exact this
      have h2 := r_lt h.wg hlp hr'
      have hsk := h.seekS hk hp (mem g p).r (mem g p).v
      rw [s5, s3'] at hsk
      have hsb := fun q => startR_beg hw hp q
      have next : ∀ z, Bx g.kind g.op z → ∀ m : Mm, m = { mem g p with v := z, r := (mem g p).r + 1 } → ∀ R1, R1 = nextR (setSum (startR R p) p z) p → Sim n (Gr.scan f (send (setM g p m) p) p) (scanR f R1 p) ∧ rbeg (scanR f R1 p) p = !(mem (Gr.scan f (send (setM g p m) p) p) p).has ∧ ∀ q, q ≠ p → rbeg (scanR f R1 p) q = rbeg R q ∧ mem (Gr.scan f (send (setM g p m) p) p) q = mem g q := by
        intro z hz m hm R1 hR1
        have h3 := h.next hp hh h2 hz
        rw [← hm, ← hR1] at h3
        have hmX := fun q => mem_setM (m := m) hlp q
        have hmY : mem (setM g p m) p = m := by rw [hmX, if_pos rfl]
        have hbX : ∀ q, rbeg R1 q = if q = p then false else rbeg (startR R p) q := fun q => by rw [hR1]; exact nextR_beg ((hw.start hp).sum p z) hp q
        have h4 := h3.start hk hp (by rw [hmY, hm]; exact hh) (by rw [hbX, if_pos rfl])
        have hsm : ∀ q, mem (send (setM g p m) p) q = mem (setM g p m) q := fun q => by unfold mem; rw [send_ms]
        have hrm : rrnd R1 p = m.r := by have := h3.rnd p hp; rw [hmY] at this; exact this
        obtain ⟨i1, i2, i3⟩ := Sim.scan f (g := send (setM g p m) p) (R := R1) (p := p) h3.w ((send_op _ _).2.1.trans hk) hp (by rw [hsm, hmY, hm]; exact hh) (by rw [hsm, hmY]; exact hrm) (fun _ => by rw [hbX, if_pos rfl]) (by rw [hsm]; exact h4) (by rw [hsm, hmY, hm]; dsimp only; omega)
        refine ⟨i1, i2, fun q hq => ?_⟩
        obtain ⟨j1, j2⟩ := i3 q hq
        refine ⟨?_, ?_⟩
        · rw [j1, hbX, if_neg hq, hsb, if_neg hq]
        · rw [j2, hsm, hmX, if_neg hq]
      by_cases hp2 : 2 ^ (mem g p).r ≤ p
      · have hpR : 2 ^ rrnd R p ≤ p := by rw [hrr]; exact hp2
        cases hl : lookI (mem g p).got ((mem g p).r : Int) with
        | none =>
          rw [hl] at hsk
          rw [scan_wait hr' hp2 hl, scanR_wait hhR hrR hpR (by rw [hrr, hsum, hsk]; exact Bool.false_ne_true)]
          refine ⟨h, by rw [hsb, if_pos rfl, hh]; rfl, fun q hq => ⟨by rw [hsb, if_neg hq], rfl⟩⟩
        | some s =>
          rw [hl] at hsk
          have hop : R.op = g.op := by rw [← s5]; exact h.op
          have hb2 := Bx.op h.ok (by rw [hk]; decide) (h.g01 p hp _ s hl) (h.v01 p hp)
          rw [scan_some hlp hr' hp2 hl, scanR_some hhR hrR hpR (by rw [hrr, hsum, hsk]), hrr, hsum, hsk]
          refine next _ hb2.2 _ rfl _ ?_
          dsimp only
          rw [hb2.1]
      · have hpR : ¬ 2 ^ rrnd R p ≤ p := by rw [hrr]; exact hp2
        rw [scan_go hr' hp2, scanR_go hhR hrR hpR]
        refine next _ (h.v01 p hp) _ rfl _ ?_
        have : setSum (startR R p) p (mem g p).v = startR R p := by rw [← hsum, ← s1' p]; exact setSum_same (hw.start hp) hp
        rw [this]
    · rw [if_neg hr] at h
      have hhR : ¬ rhas R p = true := by rw [h.has p hp, hh]; decide
      rw [scan_end (by rw [h.gn]; exact hr), scanR_end hhR (by rw [hrr, hw.ls]; exact hr)]
      have hsum : rsum R p = (mem g p).v := by rw [h.sum p hp, hh]; rfl
      have h1 := h.res hp (mem g p).v
      have e1 : setSum R p (mem g p).v = R := by rw [← hsum]; exact setSum_same hw hp
      rw [e1] at h1
      have hX := fun q => mem_setM (m := { mem g p with res := (mem g p).v, has := true }) hlp q
      refine ⟨h1, ?_, fun q hq => ⟨rfl, ?_⟩⟩
      · rw [hX, if_pos rfl]; exact hb hr
      · rw [hX, if_neg hq]
end
end Rg
