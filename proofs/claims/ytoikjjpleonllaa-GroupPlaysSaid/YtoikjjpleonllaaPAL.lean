/-
  A part of the proof of the claim that this folder bears.
-/
import Derived.Test.YtoikjjpleonllaaPAK
/- The text R2. -/
set_option linter.unusedVariables false
set_option linter.unusedSimpArgs false
set_option maxRecDepth 10000
namespace Go.Proofs.Ytoikjjpleonllaa
open Go Go.KK Gr Rg

set_option maxHeartbeats 8000000 in
theorem rscan_ok {L : List Asn} {p n : Nat} {X : Rs} (hw : WR n X) {i : Nat} (hi : i < n) (ho : okOp X.op) (hf : X.fly.length ≤ 50000) (hgl : (rgot X i).length ≤ 1000) :
    CallS Try.prog 48 [.pointer (some ⟨p, 0, none⟩), .int .i64 (i : Int)].toArray (RB p X :: L) (fun v M => v = .tuple #[] ∧ M = RB p (scanR 4 X i) :: L) := by
  have wn1 := hw.n1
  have wn8 := hw.n8
  have wls := hw.ls
  have wlh := hw.lh
  have wlg := hw.lg
  have wlr := hw.lr
  have wlb := hw.lb
  refine CallS.ent ?_
  refine CallS.enter Try.func48 rfl rfl rfl rfl rfl ?_
  refine RB_open fun sa sc ha hc ga gc ra rc ba bc fa fc hs hb => ?_
  refine J.imp (M := blk p (rC X.kind X.op X.root X.sum.length sa sc ha X.has.length hc ga X.got.length gc ra X.rnd.length rc ba X.beg.length bc fa X.fly.length fc X.sent) :: sl intE sa sc X.sum :: sl boE ha hc X.has :: sl grE ga gc (hs.zip X.got) :: star (List.zipWith gA hs X.got) :: sl natE ra rc X.rnd :: sl boE ba bc X.beg :: slQ rmE fa fc X.fly :: L) (fun h s => s) ?_
  refine J.block rfl ?_
  refine J.loopF (ι := Nat × Rs) (fun q => WR n q.2 ∧ scanR q.1 q.2 i = scanR 4 X i ∧ 4 ≤ rrnd q.2 i + q.1 ∧ okOp q.2.op ∧ q.2.fly.length + q.1 ≤ X.fly.length + 4 ∧ (rgot q.2 i).length ≤ 1000) (fun q => []) [(0, _), (1, _)] (fun q => RB p q.2 :: L) (fun q => q.1) (4, X) rfl (.cons rfl rfl (.cons rfl rfl .nil)) .nil (fun h s => RB_mk (R := X) (L := L) ⟨sa, sc, ha, hc, ga, gc, ra, rc, ba, bc, fa, fc, hs⟩ hb (show Sat h (blk p (rC X.kind X.op X.root X.sum.length sa sc ha X.has.length hc ga X.got.length gc ra X.rnd.length rc ba X.beg.length bc fa X.fly.length fc X.sent) :: sl intE sa sc X.sum :: sl boE ha hc X.has :: sl grE ga gc (hs.zip X.got) :: star (List.zipWith gA hs X.got) :: sl natE ra rc X.rnd :: sl boE ba bc X.beg :: slQ rmE fa fc X.fly :: L) from SubC.out h s)) ⟨hw, rfl, by dsimp only; omega, ho, Nat.le_refl _, hgl⟩ ?_
  rintro ⟨f, Y⟩ ⟨hwY, hsc, hf4, hoY, hfl, hglY⟩ ihf
  try dsimp only
  dsimp only at hwY hsc hf4 hoY hfl hglY
  clear hb wls wlh wlg wlr wlb
  refine RB_open fun sa sc ha hc ga gc ra rc ba bc fa fc hs hb => ?_
  refine J.imp (M := blk p (rC Y.kind Y.op Y.root Y.sum.length sa sc ha Y.has.length hc ga Y.got.length gc ra Y.rnd.length rc ba Y.beg.length bc fa Y.fly.length fc Y.sent) :: sl intE sa sc Y.sum :: sl boE ha hc Y.has :: sl grE ga gc (hs.zip Y.got) :: star (List.zipWith gA hs Y.got) :: sl natE ra rc Y.rnd :: sl boE ba bc Y.beg :: slQ rmE fa fc Y.fly :: L) (fun h s => s) ?_
  have yls := hwY.ls
  have ylh := hwY.lh
  have ylg := hwY.lg
  have ylr := hwY.lr
  have ylb := hwY.lb
  have hr3 := hwY.rrnd hi
  have hp8 := pow_le hr3
  obtain ⟨f, rfl⟩ : ∃ f', f = f' + 1 := ⟨f - 1, by omega⟩
  obtain ⟨w, hw2⟩ : ∃ w, w = 2 ^ rrnd Y i := ⟨_, rfl⟩
  rw [← hw2] at hp8
  refine J.seq rfl ?_
  refine J.seq rfl ?_
  refine J.region rfl ?_
  refine JO.pur rfl rfl rfl (Pur.move rfl) ?_
  refine JO.pur rfl rfl rfl (Pur.nilCheck rfl) ?_
  refine JO.pur rfl rfl rfl (Pur.fieldAddr rfl) ?_
  refine JO.pur rfl rfl rfl (Pur.load rfl (CellIn.blk rfl)) ?_
  refine JO.pur rfl rfl rfl (Pur.move rfl) ?_
  refine JO.pur rfl rfl rfl (Pur.idx rfl rfl rfl (by first | rfl | (simp; done) | omega | (rw [List.length_zip]; omega) | (rw [List.length_set]; omega)) rfl (by rw [ylh]; exact hi)) ?_
  refine JO.pur rfl rfl rfl (Pur.load rfl (CellIn.el0 rfl (getD_get false (by rw [ylh]; exact hi)) rfl)) ?_
  refine JO.setv (u' := .bool (rhas Y i)) 13 rfl rfl ?_
  refine JO.pur rfl rfl rfl (Pur.not rfl) ?_
  refine JO.nil ?_
  refine J.splitB 14 rfl (fun h14 => ?_) (fun h14 => ?_)
  · try simp only [bSimp, bSimp2, ne_eq] at h14
    have hhs : ¬ rhas Y i = true := by simpa using h14
    refine J.condT rfl rfl ?_
    refine J.skip rfl ?_
    refine J.block rfl ?_
    refine J.seq rfl ?_
    refine J.region rfl ?_
    refine JO.pur rfl rfl rfl (Pur.move rfl) ?_
    refine JO.pur rfl rfl rfl (Pur.nilCheck rfl) ?_
    refine JO.pur rfl rfl rfl (Pur.fieldAddr rfl) ?_
    refine JO.pur rfl rfl rfl (Pur.load rfl (CellIn.blk rfl)) ?_
    refine JO.pur rfl rfl rfl (Pur.move rfl) ?_
    refine JO.pur rfl rfl rfl (Pur.idx rfl rfl rfl (by first | rfl | (simp; done) | omega | (rw [List.length_zip]; omega) | (rw [List.length_set]; omega)) rfl (by rw [ylr]; exact hi)) ?_
    refine JO.pur rfl rfl rfl (Pur.load rfl (CellIn.el0 rfl (getD_get 0 (by rw [ylr]; exact hi)) rfl)) ?_
    refine JO.setv (u' := .int .i64 (rrnd Y i : Int)) 21 rfl rfl ?_
    refine JO.pur rfl rfl rfl (Pur.shl rfl rfl rfl (by omega) (shl_ok hr3)) ?_
    refine JO.setv (u' := .int .i64 (w : Int)) 22 rfl (congrArg (Value.int .i64) (by rw [hw2]; exact shl_nat _)) ?_
    refine JO.pur rfl rfl rfl (Pur.assign rfl) ?_
    refine JO.nil ?_
    refine J.seq rfl ?_
    refine J.seq rfl ?_
    refine J.region rfl ?_
    refine JO.pur rfl rfl rfl (Pur.move rfl) ?_
    refine JO.pur rfl rfl rfl (Pur.move rfl) ?_
    refine JO.pur rfl rfl rfl (Pur.nilCheck rfl) ?_
    refine JO.pur rfl rfl rfl (Pur.fieldAddr rfl) ?_
    refine JO.pur rfl rfl rfl (Pur.load rfl (CellIn.blk rfl)) ?_
    refine JO.pur rfl rfl rfl (Pur.geq rfl rfl) ?_
    refine JO.nil ?_
    refine J.splitB 28 rfl (fun h28 => ?_) (fun h28 => ?_)
    · try simp only [bSimp, bSimp2, ne_eq] at h28
      have hge : ¬ 2 ^ rrnd Y i < Y.sum.length := by rw [← hw2]; omega
      refine J.condT rfl rfl ?_
      refine J.seq rfl ?_
      refine J.region rfl ?_
      refine JO.pur rfl rfl rfl (Pur.move rfl) ?_
      refine JO.pur rfl rfl rfl (Pur.nilCheck rfl) ?_
      refine JO.pur rfl rfl rfl (Pur.fieldAddr rfl) ?_
      refine JO.pur rfl rfl rfl (Pur.load rfl (CellIn.blk rfl)) ?_
      refine JO.pur rfl rfl rfl (Pur.move rfl) ?_
      refine JO.pur rfl rfl rfl (Pur.idx rfl rfl rfl (by first | rfl | (simp; done) | omega | (rw [List.length_zip]; omega) | (rw [List.length_set]; omega)) rfl (by rw [ylh]; exact hi)) ?_
      refine JO.effN rfl rfl (Eff.storeS0 (z' := true) rfl rfl rfl rfl (getD_get false (by rw [ylh]; exact hi)) .head) ?_
      rintro _ _ ⟨rfl, rfl⟩
      refine JO.nil ?_
      refine J.ret rfl rfl ?_
      refine ⟨_, _, ⟨rfl, rfl⟩, rfl, fun h s => ?_⟩
      rw [← hsc, scanR_end hhs hge]
      have e : Y.has.length = (Y.has.set i true).length := (by simp); rw [e] at s
      exact (fun h s => RB_mk (R := (setHas Y i true)) (L := L) ⟨sa, sc, ha, hc, ga, gc, ra, rc, ba, bc, fa, fc, hs⟩ hb (show Sat h (blk p (rC Y.kind Y.op Y.root Y.sum.length sa sc ha (Y.has.set i true).length hc ga Y.got.length gc ra Y.rnd.length rc ba Y.beg.length bc fa Y.fly.length fc Y.sent) :: sl intE sa sc Y.sum :: sl boE ha hc (Y.has.set i true) :: sl grE ga gc (hs.zip Y.got) :: star (List.zipWith gA hs Y.got) :: sl natE ra rc Y.rnd :: sl boE ba bc Y.beg :: slQ rmE fa fc Y.fly :: L) from SubC.out h s)) h s
    · try simp only [bSimp, bSimp2, ne_eq] at h28
      have hlt : 2 ^ rrnd Y i < Y.sum.length := by rw [← hw2]; omega
      have hr2 := r_ltR hwY hi hlt
      refine J.condF rfl rfl ?_
      refine J.skip rfl ?_
      refine J.seq rfl ?_
      refine J.seq rfl ?_
      refine J.cut2 (ι := Unit) (fun q => True) (fun q => []) [(0, _), (1, _), (4, _)] (fun q => RB p (startR Y i) :: L) (.cons rfl rfl (.cons rfl rfl (.cons rfl rfl .nil))) ?_ ?_
      · rintro - -
        try dsimp only
        obtain ⟨Z, hZ⟩ : ∃ Z, Z = startR Y i := ⟨_, rfl⟩
        rw [← hZ]
        obtain ⟨z1, z2, z3, z4, z5, z6, z7, z8⟩ := startR_same Y i
        rw [← hZ] at z1 z2 z3 z4 z5 z6 z7 z8
        have hwZ : WR n Z := by rw [hZ]; exact hwY.start hi
        have zls := hwZ.ls
        have zlh := hwZ.lh
        have zlg := hwZ.lg
        have zlr := hwZ.lr
        have zlb := hwZ.lb
        have hrZ : rrnd Z i = rrnd Y i := by unfold rrnd; rw [z4]
        have hsZ : rsum Z i = rsum Y i := by unfold rsum; rw [z1]
        have hgZ : rgot Z i = rgot Y i := by unfold rgot; rw [z3]
        refine J.seq rfl ?_
        refine J.seq rfl ?_
        refine J.cut2 (ι := Int) (fun q => scanR f (nextR (setSum Z i q) i) i = scanR 4 X i) (fun q => []) [(0, _), (1, _)] (fun q => RB p (setSum Z i q) :: L) (.cons rfl rfl (.cons rfl rfl .nil)) ?_ ?_
        · rintro z hnx
          try dsimp only
          obtain ⟨V, hV⟩ : ∃ V, V = setSum Z i z := ⟨_, rfl⟩
          rw [← hV] at hnx ⊢
          have hwV : WR n V := by rw [hV]; exact hwZ.sum i z
          have hrV : rrnd V i = rrnd Y i := by rw [hV]; exact hrZ
          have hwV2 : WR n (nextR V i) := (hwV.rnd i (by omega)).beg i false
          have hrV2 : rrnd (nextR V i) i = rrnd Y i + 1 := by show (V.rnd.set i (rrnd V i + 1)).getD i 0 = _; rw [getD_set 0 _ (by rw [hwV.lr]; exact hi), if_pos rfl, hrV]
          have hoV : okOp (nextR V i).op := by show okOp V.op; rw [hV]; show okOp Z.op; rw [z5]; exact hoY
          have hfV : (nextR V i).fly.length + f ≤ X.fly.length + 4 := by show V.fly.length + f ≤ _; rw [hV]; show Z.fly.length + f ≤ _; omega
          have hgV : (rgot (nextR V i) i).length ≤ 1000 := by show (rgot V i).length ≤ 1000; rw [hV]; show (rgot Z i).length ≤ 1000; rw [hgZ]; exact hglY
          have vlr := hwV.lr
          have vlb := hwV.lb
          clear yls ylh ylg ylr ylb zls zlh zlg zlr zlb hp8
          refine RB_open fun sa sc ha hc ga gc ra rc ba bc fa fc hs hb => ?_
          refine J.imp (M := blk p (rC V.kind V.op V.root V.sum.length sa sc ha V.has.length hc ga V.got.length gc ra V.rnd.length rc ba V.beg.length bc fa V.fly.length fc V.sent) :: sl intE sa sc V.sum :: sl boE ha hc V.has :: sl grE ga gc (hs.zip V.got) :: star (List.zipWith gA hs V.got) :: sl natE ra rc V.rnd :: sl boE ba bc V.beg :: slQ rmE fa fc V.fly :: L) (fun h s => s) ?_
          refine J.seq rfl ?_
          refine J.region rfl ?_
          refine JO.pur rfl rfl rfl (Pur.move rfl) ?_
          refine JO.pur rfl rfl rfl (Pur.nilCheck rfl) ?_
          refine JO.pur rfl rfl rfl (Pur.fieldAddr rfl) ?_
          refine JO.pur rfl rfl rfl (Pur.load rfl (CellIn.blk rfl)) ?_
          refine JO.pur rfl rfl rfl (Pur.move rfl) ?_
          refine JO.pur rfl rfl rfl (Pur.idx rfl rfl rfl (by first | rfl | (simp; done) | omega | (rw [List.length_zip]; omega) | (rw [List.length_set]; omega)) rfl (by rw [vlr]; exact hi)) ?_
          refine JO.pur rfl rfl rfl (Pur.load rfl (CellIn.el0 rfl (getD_get 0 (by rw [vlr]; exact hi)) rfl)) ?_
          refine JO.setv (u' := .int .i64 (rrnd V i : Int)) 155 rfl rfl ?_
          refine JO.pur rfl rfl rfl (Pur.add rfl rfl (wr64 (by omega))) ?_
          refine JO.setv (u' := .int .i64 ((rrnd V i + 1 : Nat) : Int)) 156 rfl rfl ?_
          refine JO.pur rfl rfl rfl (Pur.idx rfl rfl rfl (by first | rfl | (simp; done) | omega | (rw [List.length_zip]; omega) | (rw [List.length_set]; omega)) rfl (by rw [vlr]; exact hi)) ?_
          refine JO.effN rfl rfl (Eff.storeS0 (z' := (rrnd V i + 1)) rfl rfl rfl rfl (getD_get 0 (by rw [vlr]; exact hi)) .head) ?_
          rintro _ _ ⟨rfl, rfl⟩
          refine JO.nil ?_
          refine J.region rfl ?_
          refine JO.pur rfl rfl rfl (Pur.move rfl) ?_
          refine JO.pur rfl rfl rfl (Pur.nilCheck rfl) ?_
          refine JO.pur rfl rfl rfl (Pur.fieldAddr rfl) ?_
          refine JO.pur rfl rfl rfl (Pur.load rfl (CellIn.blk rfl)) ?_
          refine JO.pur rfl rfl rfl (Pur.move rfl) ?_
          refine JO.pur rfl rfl rfl (Pur.idx rfl rfl rfl (by first | rfl | (simp; done) | omega | (rw [List.length_zip]; omega) | (rw [List.length_set]; omega)) rfl (by rw [vlb]; exact hi)) ?_
          refine JO.effN rfl rfl (Eff.storeS0 (z' := false) rfl rfl rfl rfl (getD_get false (by rw [vlb]; exact hi)) .head) ?_
          rintro _ _ ⟨rfl, rfl⟩
          refine JO.nil ?_
          refine J.inBlock ?_
          refine J.imp (M := RB p (nextR V i) :: L) (fun h s => by have e1 : V.rnd.length = (V.rnd.set i (rrnd V i + 1)).length := (by simp); have e2 : V.beg.length = (V.beg.set i false).length := (by simp); rw [e1, e2] at s; exact (fun h s => RB_mk (R := (nextR V i)) (L := L) ⟨sa, sc, ha, hc, ga, gc, ra, rc, ba, bc, fa, fc, hs⟩ hb (show Sat h (blk p (rC V.kind V.op V.root V.sum.length sa sc ha V.has.length hc ga V.got.length gc ra (V.rnd.set i (rrnd V i + 1)).length rc ba (V.beg.set i false).length bc fa V.fly.length fc V.sent) :: sl intE sa sc V.sum :: sl boE ha hc V.has :: sl grE ga gc (hs.zip V.got) :: star (List.zipWith gA hs V.got) :: sl natE ra rc (V.rnd.set i (rrnd V i + 1)) :: sl boE ba bc (V.beg.set i false) :: slQ rmE fa fc V.fly :: L) from SubC.out h s)) h s) ?_
          exact J.weaken (.cons rfl rfl (.cons rfl rfl .nil)) (fun h s => by dsimp only; exact SubC.out h s) (ihf (f, nextR V i) ⟨hwV2, hnx, by rw [hrV2]; dsimp only; omega, hoV, by dsimp only; exact hfV, hgV⟩ (by dsimp only; omega))
        · intro cuta8
          refine RB_open fun sa sc ha hc ga gc ra rc ba bc fa fc hs hb => ?_
          refine J.imp (M := blk p (rC Z.kind Z.op Z.root Z.sum.length sa sc ha Z.has.length hc ga Z.got.length gc ra Z.rnd.length rc ba Z.beg.length bc fa Z.fly.length fc Z.sent) :: sl intE sa sc Z.sum :: sl boE ha hc Z.has :: sl grE ga gc (hs.zip Z.got) :: star (List.zipWith gA hs Z.got) :: sl natE ra rc Z.rnd :: sl boE ba bc Z.beg :: slQ rmE fa fc Z.fly :: L) (fun h s => s) ?_
          refine J.region rfl ?_
          refine JO.pur rfl rfl rfl (Pur.move rfl) ?_
          refine JO.pur rfl rfl rfl (Pur.move rfl) ?_
          refine JO.pur rfl rfl rfl (Pur.sub rfl rfl (wr64 (by omega))) ?_
          refine JO.pur rfl rfl rfl (Pur.geq rfl rfl) ?_
          refine JO.nil ?_
          refine J.splitB 81 rfl (fun h81 => ?_) (fun h81 => ?_)
          · try simp only [bSimp, bSimp2, ne_eq] at h81
            have hle : 2 ^ rrnd Y i ≤ i := by rw [← hw2]; omega
            have hglZ : (rgot Z i).length ≤ 1000 := by rw [hgZ]; exact hglY
            obtain ⟨hd, hbi⟩ : ∃ hd, hs[i]? = some hd := ⟨_, List.getElem?_eq_getElem (by omega)⟩
            have hgi : Z.got[i]? = some (rgot Z i) := getD_get ([] : List Rm) (by omega)
            have hzg := zipr_get hbi hgi
            refine J.imp (M := blk p (rC Z.kind Z.op Z.root Z.sum.length sa sc ha Z.has.length hc ga Z.got.length gc ra Z.rnd.length rc ba Z.beg.length bc fa Z.fly.length fc Z.sent) :: sl intE sa sc Z.sum :: sl boE ha hc Z.has :: sl grE ga gc (hs.zip Z.got) :: gA hd (rgot Z i) :: zwBut gA i hs Z.got :: sl natE ra rc Z.rnd :: sl boE ba bc Z.beg :: slQ rmE fa fc Z.fly :: L) (fun h s => SubC.out h (zw_open (A := gA) hbi hgi (SubC.out (M := star (List.zipWith gA hs Z.got) :: blk p (rC Z.kind Z.op Z.root Z.sum.length sa sc ha Z.has.length hc ga Z.got.length gc ra Z.rnd.length rc ba Z.beg.length bc fa Z.fly.length fc Z.sent) :: sl intE sa sc Z.sum :: sl boE ha hc Z.has :: sl grE ga gc (hs.zip Z.got) :: sl natE ra rc Z.rnd :: sl boE ba bc Z.beg :: slQ rmE fa fc Z.fly :: L) h s))) ?_
            refine J.condT rfl rfl ?_
            refine J.seq rfl ?_
            refine J.region rfl ?_
            refine JO.pur rfl rfl rfl (Pur.assign rfl) ?_
            refine JO.nil ?_
            refine J.seq rfl ?_
            refine J.seq rfl ?_
            refine J.region rfl ?_
            refine JO.pur rfl rfl rfl (Pur.assign rfl) ?_
            refine JO.nil ?_
            refine J.block rfl ?_
            refine J.loopF (ι := Nat) (fun q => q ≤ (rgot Z i).length) (fun q => [(5, .bool (seekS Z.op (rrnd Z i) ((rgot Z i).take q) (rsum Z i)).2), (6, .int .i64 (q : Int))]) [(0, _), (1, _)] (fun q => blk p (rC Z.kind Z.op Z.root (Z.sum.set i (seekS Z.op (rrnd Z i) ((rgot Z i).take q) (rsum Z i)).1).length sa sc ha Z.has.length hc ga Z.got.length gc ra Z.rnd.length rc ba Z.beg.length bc fa Z.fly.length fc Z.sent) :: sl intE sa sc (Z.sum.set i (seekS Z.op (rrnd Z i) ((rgot Z i).take q) (rsum Z i)).1) :: sl boE ha hc Z.has :: sl grE ga gc (hs.zip Z.got) :: gA hd (rgot Z i) :: zwBut gA i hs Z.got :: sl natE ra rc Z.rnd :: sl boE ba bc Z.beg :: slQ rmE fa fc Z.fly :: L) (fun q => (rgot Z i).length - q) 0 rfl (.cons rfl rfl (.cons rfl rfl .nil)) (.cons rfl rfl (.cons rfl rfl .nil)) (fun h s => by rw [show Z.sum.set i (seekS Z.op (rrnd Z i) ((rgot Z i).take 0) (rsum Z i)).1 = Z.sum from list_set_same (getD_get 0 (by omega))]; exact SubC.out h s) (Nat.zero_le _) ?_
            rintro q hq ihq
            try dsimp only
            have hssl : (Z.sum.set i (seekS Z.op (rrnd Z i) ((rgot Z i).take q) (rsum Z i)).1).length = n := by simp; omega
            have hsst : (Z.sum.set i (seekS Z.op (rrnd Z i) ((rgot Z i).take q) (rsum Z i)).1)[i]? = some (seekS Z.op (rrnd Z i) ((rgot Z i).take q) (rsum Z i)).1 := by rw [List.getElem?_set]; simp; omega
            refine J.seq rfl ?_
            refine J.seq rfl ?_
            refine J.region rfl ?_
            refine JO.pur rfl rfl rfl (Pur.move rfl) ?_
            refine JO.pur rfl rfl rfl (Pur.move rfl) ?_
            refine JO.pur rfl rfl rfl (Pur.nilCheck rfl) ?_
            refine JO.pur rfl rfl rfl (Pur.fieldAddr rfl) ?_
            refine JO.pur rfl rfl rfl (Pur.load rfl (CellIn.blk rfl)) ?_
            refine JO.pur rfl rfl rfl (Pur.move rfl) ?_
            refine JO.pur rfl rfl rfl (Pur.idx rfl rfl rfl (by first | rfl | (simp; done) | omega | (rw [List.length_zip]; omega) | (rw [List.length_set]; omega)) rfl (by rw [List.length_zip]; omega)) ?_
            refine JO.pur rfl rfl rfl (Pur.load rfl (CellIn.el0 rfl hzg rfl)) ?_
            refine JO.setv (u' := .slice hd.1 (rgot Z i).length hd.2) 89 rfl rfl ?_
            refine JO.pur rfl rfl rfl (Pur.len rfl) ?_
            refine JO.pur rfl rfl rfl (Pur.lss rfl rfl) ?_
            refine JO.nil ?_
            refine J.splitB 91 rfl (fun h91 => ?_) (fun h91 => ?_)
            · try simp only [bSimp, bSimp2, ne_eq] at h91
              have hql : q < (rgot Z i).length := by omega
              obtain ⟨m, hM⟩ : ∃ m, (rgot Z i)[q]? = some m := ⟨_, List.getElem?_eq_getElem hql⟩
              have hsn := seekS_snoc Z.op (rrnd Z i) ((rgot Z i).take q) m (rsum Z i)
              rw [← take_get hM] at hsn
              refine J.condT rfl rfl ?_
              refine J.skip rfl ?_
              refine J.seq rfl ?_
              refine J.block rfl ?_
              refine J.seq rfl ?_
              refine J.quiet rfl Try.mixed (by kernel_rfl) ?_
              refine JQ.pur rfl rfl rfl (Pur.move rfl) ?_
              refine JQ.pur rfl rfl rfl (Pur.nilCheck rfl) ?_
              refine JQ.pur rfl rfl rfl (Pur.fieldAddr rfl) ?_
              refine JQ.pur rfl rfl rfl (Pur.load rfl (CellIn.blk rfl)) ?_
              refine JQ.pur rfl rfl rfl (Pur.move rfl) ?_
              refine JQ.pur rfl rfl rfl (Pur.idx rfl rfl rfl (by first | rfl | (simp; done) | omega | (rw [List.length_zip]; omega) | (rw [List.length_set]; omega)) rfl (by rw [List.length_zip]; omega)) ?_
              refine JQ.pur rfl rfl rfl (Pur.load rfl (CellIn.el0 rfl hzg rfl)) ?_
              refine JQ.setv (u' := .slice hd.1 (rgot Z i).length hd.2) 100 rfl rfl ?_
              refine JQ.pur rfl rfl rfl (Pur.move rfl) ?_
              refine JQ.pur rfl rfl rfl (Pur.idx rfl rfl rfl (by first | rfl | (simp; done) | omega | (rw [List.length_zip]; omega) | (rw [List.length_set]; omega)) rfl (by omega)) ?_
              refine JQ.pur rfl rfl rfl (Pur.fieldAddr rfl) ?_
              refine JQ.pur rfl rfl rfl (Pur.load rfl (CellIn.el rfl hM rfl)) ?_
              refine JQ.setv (u' := .int .i64 (m.rd : Int)) 104 rfl rfl ?_
              refine JQ.pur rfl rfl rfl (Pur.move rfl) ?_
              refine JQ.pur rfl rfl rfl (Pur.nilCheck rfl) ?_
              refine JQ.pur rfl rfl rfl (Pur.fieldAddr rfl) ?_
              refine JQ.pur rfl rfl rfl (Pur.load rfl (CellIn.blk rfl)) ?_
              refine JQ.pur rfl rfl rfl (Pur.move rfl) ?_
              refine JQ.pur rfl rfl rfl (Pur.idx rfl rfl rfl (by first | rfl | (simp; done) | omega | (rw [List.length_zip]; omega) | (rw [List.length_set]; omega)) rfl (by rw [zlr]; exact hi)) ?_
              refine JQ.pur rfl rfl rfl (Pur.load rfl (CellIn.el0 rfl (getD_get 0 (by rw [zlr]; exact hi)) rfl)) ?_
              refine JQ.setv (u' := .int .i64 (rrnd Z i : Int)) 111 rfl rfl ?_
              refine JQ.pur rfl rfl rfl (Pur.eqlI rfl rfl) ?_
              refine JQ.nil ?_
              refine J.splitB 112 rfl (fun h112 => ?_) (fun h112 => ?_)
              · try simp only [bSimp, bSimp2, ne_eq] at h112
                have hrd : m.rd = rrnd Z i := by omega
                refine J.condT rfl rfl ?_
                refine J.seq rfl ?_
                have hoZ : okOp Z.op := by rw [z5]; exact hoY
                refine J.mask0 (n := 35) [34] rfl Try.mixed rfl (by kernel_rfl) ?_
                refine JM.take 0 (fun _ h => h) rfl (by kernel_rfl) rfl rfl rfl (m' := 1) rfl (Pur.move rfl) ?_
                refine JM.take 1 (fun _ h => h) rfl (by kernel_rfl) rfl rfl rfl (m' := 3) rfl (Pur.nilCheck rfl) ?_
                refine JM.take 2 (fun _ h => h) rfl (by kernel_rfl) rfl rfl rfl (m' := 7) rfl (Pur.fieldAddr rfl) ?_
                refine JM.take 3 (fun _ h => h) rfl (by kernel_rfl) rfl rfl rfl (m' := 15) rfl (Pur.load rfl (CellIn.blk rfl)) ?_
                refine JM.take 4 (fun _ h => h) rfl (by kernel_rfl) rfl rfl rfl (m' := 31) rfl (Pur.move rfl) ?_
                refine JM.take 5 (fun _ h => h) rfl (by kernel_rfl) rfl rfl rfl (m' := 63) rfl (Pur.move rfl) ?_
                refine JM.take 6 (fun _ h => h) rfl (by kernel_rfl) rfl rfl rfl (m' := 127) rfl (Pur.nilCheck rfl) ?_
                refine JM.take 7 (fun _ h => h) rfl (by kernel_rfl) rfl rfl rfl (m' := 255) rfl (Pur.fieldAddr rfl) ?_
                refine JM.take 8 (fun _ h => h) rfl (by kernel_rfl) rfl rfl rfl (m' := 511) rfl (Pur.load rfl (CellIn.blk rfl)) ?_
                refine JM.take 9 (fun _ h => h) rfl (by kernel_rfl) rfl rfl rfl (m' := 1023) rfl (Pur.move rfl) ?_
                refine JM.take 10 (fun _ h => h) rfl (by kernel_rfl) rfl rfl rfl (m' := 2047) rfl (Pur.nilCheck rfl) ?_
                refine JM.take 11 (fun _ h => h) rfl (by kernel_rfl) rfl rfl rfl (m' := 4095) rfl (Pur.fieldAddr rfl) ?_
                refine JM.take 12 (fun _ h => h) rfl (by kernel_rfl) rfl rfl rfl (m' := 8191) rfl (Pur.load rfl (CellIn.blk rfl)) ?_
                refine JM.take 13 (fun _ h => h) rfl (by kernel_rfl) rfl rfl rfl (m' := 16383) rfl (Pur.move rfl) ?_
                refine JM.take 14 (fun _ h => h) rfl (by kernel_rfl) rfl rfl rfl (m' := 32767) rfl (Pur.idx rfl rfl rfl (by first | rfl | (simp; done) | omega | (rw [List.length_zip]; omega) | (rw [List.length_set]; omega)) rfl (by rw [List.length_zip]; omega)) ?_
                refine JM.take 15 (fun _ h => h) rfl (by kernel_rfl) rfl rfl rfl (m' := 65535) rfl (Pur.load rfl (CellIn.el0 rfl hzg rfl)) ?_
                refine JM.setv (u' := .slice hd.1 (rgot Z i).length hd.2) 129 rfl rfl ?_
                refine JM.take 16 (fun _ h => h) rfl (by kernel_rfl) rfl rfl rfl (m' := 131071) rfl (Pur.move rfl) ?_
                refine JM.take 17 (fun _ h => h) rfl (by kernel_rfl) rfl rfl rfl (m' := 262143) rfl (Pur.idx rfl rfl rfl (by first | rfl | (simp; done) | omega | (rw [List.length_zip]; omega) | (rw [List.length_set]; omega)) rfl (by omega)) ?_
                refine JM.take 18 (fun _ h => h) rfl (by kernel_rfl) rfl rfl rfl (m' := 524287) rfl (Pur.fieldAddr rfl) ?_
                refine JM.take 19 (fun _ h => h) rfl (by kernel_rfl) rfl rfl rfl (m' := 1048575) rfl (Pur.load rfl (CellIn.el rfl hM rfl)) ?_
                refine JM.setv (u' := .int .i64 m.v) 133 rfl rfl ?_
                refine JM.take 20 (fun _ h => h) rfl (by kernel_rfl) rfl rfl rfl (m' := 2097151) rfl (Pur.move rfl) ?_
                refine JM.take 21 (fun _ h => h) rfl (by kernel_rfl) rfl rfl rfl (m' := 4194303) rfl (Pur.nilCheck rfl) ?_
                refine JM.take 22 (fun _ h => h) rfl (by kernel_rfl) rfl rfl rfl (m' := 8388607) rfl (Pur.fieldAddr rfl) ?_
                refine JM.take 23 (fun _ h => h) rfl (by kernel_rfl) rfl rfl rfl (m' := 16777215) rfl (Pur.load rfl (CellIn.blk rfl)) ?_
                refine JM.take 24 (fun _ h => h) rfl (by kernel_rfl) rfl rfl rfl (m' := 33554431) rfl (Pur.move rfl) ?_
                refine JM.take 25 (fun _ h => h) rfl (by kernel_rfl) rfl rfl rfl (m' := 67108863) rfl (Pur.idx rfl rfl rfl (by first | rfl | (simp; done) | omega | (rw [List.length_zip]; omega) | (rw [List.length_set]; omega)) rfl (by rw [hssl]; exact hi)) ?_
                refine JM.take 26 (fun _ h => h) rfl (by kernel_rfl) rfl rfl rfl (m' := 134217727) rfl (Pur.load rfl (CellIn.el0 rfl hsst rfl)) ?_
                refine JM.setv (u' := .int .i64 (seekS Z.op (rrnd Z i) ((rgot Z i).take q) (rsum Z i)).1) 140 rfl rfl ?_
                refine JM.one (i := 27) (by kernel_rfl) ?_
                refine JMi.eff rfl rfl rfl rfl (m' := 268435455) rfl (Eff.buildSlice intE [m.v, (seekS Z.op (rrnd Z i) ((rgot Z i).take q) (rsum Z i)).1] rfl rfl rfl rfl rfl rfl rfl) ?_
                rintro _ _ ⟨b141, rfl, -, rfl⟩
                refine ⟨.inr (fun _ h => h.tail), ?_⟩
                refine JM.one (i := 28) (by kernel_rfl) ?_
                refine JMi.effR (fun _ h => h.tail) rfl rfl rfl rfl (m' := 536870911) rfl (Eff.call rfl (rOp2_ok (op := Z.op) (a := m.v) (b := (seekS Z.op (rrnd Z i) ((rgot Z i).take q) (rsum Z i)).1) hoZ rfl)) ?_
                refine JM.take 29 (fun _ h => h.tail) rfl (by kernel_rfl) rfl rfl rfl (m' := 1073741823) rfl (Pur.move rfl) ?_
                refine JM.take 30 (fun _ h => h.tail) rfl (by kernel_rfl) rfl rfl rfl (m' := 2147483647) rfl (Pur.extract rfl rfl) ?_
                refine JM.takeF 31 (.inr (fun _ h => h.tail)) rfl (by kernel_rfl) rfl rfl rfl (m' := 4294967295) rfl (Pur.extract rfl rfl) ?_
                refine JM.takeF 32 (.inr (fun _ h => h.tail)) rfl (by kernel_rfl) rfl rfl rfl (m' := 8589934591) rfl (Pur.extract rfl rfl) ?_
                refine JM.take 33 (fun _ h => h.tail) rfl (by kernel_rfl) rfl rfl rfl (m' := 17179869183) rfl (Pur.idx rfl rfl rfl (by first | rfl | (simp; done) | omega | (rw [List.length_zip]; omega) | (rw [List.length_set]; omega)) rfl (by rw [hssl]; exact hi)) ?_
                refine JM.one (i := 34) (by kernel_rfl) ?_
                refine JMi.effN rfl rfl rfl (m' := 34359738367) rfl (Eff.storeS0 (z' := (rOp Z.op m.v (seekS Z.op (rrnd Z i) ((rgot Z i).take q) (rsum Z i)).1)) rfl rfl rfl rfl hsst .head) ?_
                rintro _ _ ⟨rfl, rfl⟩
                refine ⟨.inl (by simp), ?_⟩
                rw [List.set_set]
                refine JM.done rfl ?_
                refine J.region rfl ?_
                refine JO.pur rfl rfl rfl (Pur.assign rfl) ?_
                refine JO.nil ?_
                refine J.inBlock ?_
                refine J.region rfl ?_
                refine JO.pur rfl rfl rfl (Pur.move rfl) ?_
                refine JO.pur rfl rfl rfl (Pur.add rfl rfl (wr64 (by omega))) ?_
                refine JO.pur rfl rfl rfl (Pur.assign rfl) ?_
                refine JO.nil ?_
                exact J.weaken (.cons rfl (by rw [hsn, if_pos hrd]) (.cons rfl (congrArg (Value.int .i64) (by first | rfl | (dsimp only; omega))) (.cons rfl rfl (.cons rfl rfl .nil)))) (fun h s => by rw [hsn, if_pos hrd]; dsimp only; rw [show (Z.sum.set i (seekS Z.op (rrnd Z i) ((rgot Z i).take q) (rsum Z i)).1).length = (Z.sum.set i (rOp Z.op m.v (seekS Z.op (rrnd Z i) ((rgot Z i).take q) (rsum Z i)).1)).length by simp] at s; exact SubC.out h s) (ihq (q + 1) (by omega) (by omega))
              · try simp only [bSimp, bSimp2, ne_eq] at h112
                have hrd : ¬ m.rd = rrnd Z i := by omega
                refine J.condF rfl rfl ?_
                refine J.skip rfl ?_
                refine J.inBlock ?_
                refine J.region rfl ?_
                refine JO.pur rfl rfl rfl (Pur.move rfl) ?_
                refine JO.pur rfl rfl rfl (Pur.add rfl rfl (wr64 (by omega))) ?_
                refine JO.pur rfl rfl rfl (Pur.assign rfl) ?_
                refine JO.nil ?_
                exact J.weaken (.cons rfl (by rw [hsn, if_neg hrd]) (.cons rfl (congrArg (Value.int .i64) (by first | rfl | (dsimp only; omega))) (.cons rfl rfl (.cons rfl rfl .nil)))) (fun h s => by rw [hsn, if_neg hrd]; exact SubC.out h s) (ihq (q + 1) (by omega) (by omega))
            · try simp only [bSimp, bSimp2, ne_eq] at h91
              have hqe : q = (rgot Z i).length := by omega
              refine J.condF rfl rfl ?_
              refine J.exit rfl rfl ?_
              refine J.seq rfl ?_
              refine J.region rfl ?_
              refine JO.pur rfl rfl rfl (Pur.move rfl) ?_
              refine JO.pur rfl rfl rfl (Pur.not rfl) ?_
              refine JO.nil ?_
              refine J.splitB 148 rfl (fun h148 => ?_) (fun h148 => ?_)
              · try simp only [bSimp, bSimp2, ne_eq] at h148
                have hnf : (seekS Z.op (rrnd Z i) (rgot Z i) (rsum Z i)).2 = false := by rw [hqe, List.take_length] at h148; simpa using h148
                have hwt : scanR 4 X i = Z := by rw [← hsc, hZ]; rw [hrZ, hsZ, hgZ, z5] at hnf; exact scanR_wait hhs hlt hle (by rw [hnf]; decide)
                refine J.condT rfl rfl ?_
                refine J.ret rfl rfl ?_
                refine ⟨_, _, ⟨rfl, rfl⟩, rfl, fun h s => ?_⟩
                rw [hwt]
                rw [hqe, List.take_length, seekS_no _ hnf, list_set_same (show Z.sum[i]? = some (rsum Z i) from getD_get 0 (by omega))] at s
                revert h
                exact (fun h s => RB_mk (R := Z) (L := L) ⟨sa, sc, ha, hc, ga, gc, ra, rc, ba, bc, fa, fc, hs⟩ hb (show Sat h (blk p (rC Z.kind Z.op Z.root Z.sum.length sa sc ha Z.has.length hc ga Z.got.length gc ra Z.rnd.length rc ba Z.beg.length bc fa Z.fly.length fc Z.sent) :: sl intE sa sc Z.sum :: sl boE ha hc Z.has :: sl grE ga gc (hs.zip Z.got) :: star (List.zipWith gA hs Z.got) :: sl natE ra rc Z.rnd :: sl boE ba bc Z.beg :: slQ rmE fa fc Z.fly :: L) from (by have s2 := zw_put (A := gA) (r' := hd) (c' := rgot Z i) hbi hgi (SubC.out (M := gA hd (rgot Z i) :: zwBut gA i hs Z.got :: blk p (rC Z.kind Z.op Z.root Z.sum.length sa sc ha Z.has.length hc ga Z.got.length gc ra Z.rnd.length rc ba Z.beg.length bc fa Z.fly.length fc Z.sent) :: sl intE sa sc Z.sum :: sl boE ha hc Z.has :: sl grE ga gc (hs.zip Z.got) :: sl natE ra rc Z.rnd :: sl boE ba bc Z.beg :: slQ rmE fa fc Z.fly :: L) h s); rw [list_set_same hbi, list_set_same hgi] at s2; exact (SubC.out (M := blk p (rC Z.kind Z.op Z.root Z.sum.length sa sc ha Z.has.length hc ga Z.got.length gc ra Z.rnd.length rc ba Z.beg.length bc fa Z.fly.length fc Z.sent) :: sl intE sa sc Z.sum :: sl boE ha hc Z.has :: sl grE ga gc (hs.zip Z.got) :: star (List.zipWith gA hs Z.got) :: sl natE ra rc Z.rnd :: sl boE ba bc Z.beg :: slQ rmE fa fc Z.fly :: L) h s2))))
              · try simp only [bSimp, bSimp2, ne_eq] at h148
                have hfd : (seekS Z.op (rrnd Z i) (rgot Z i) (rsum Z i)).2 = true := by rw [hqe, List.take_length] at h148; simpa using h148
                have hfound : scanR f (nextR (setSum Z i (seekS Z.op (rrnd Z i) (rgot Z i) (rsum Z i)).1) i) i = scanR 4 X i := by rw [← hsc]; have hfd2 := hfd; rw [hrZ, hsZ, hgZ, z5] at hfd2 ⊢; rw [hZ, ← scanR_some hhs hlt hle hfd2]
                refine J.condF rfl rfl ?_
                refine J.skip rfl ?_
                exact J.weaken (.cons rfl rfl (.cons rfl rfl .nil)) (fun h s => by rw [hqe, List.take_length] at s; revert h; exact (fun h s => RB_mk (R := (setSum Z i (seekS Z.op (rrnd Z i) (rgot Z i) (rsum Z i)).1)) (L := L) ⟨sa, sc, ha, hc, ga, gc, ra, rc, ba, bc, fa, fc, hs⟩ hb (show Sat h (blk p (rC Z.kind Z.op Z.root (Z.sum.set i (seekS Z.op (rrnd Z i) (rgot Z i) (rsum Z i)).1).length sa sc ha Z.has.length hc ga Z.got.length gc ra Z.rnd.length rc ba Z.beg.length bc fa Z.fly.length fc Z.sent) :: sl intE sa sc (Z.sum.set i (seekS Z.op (rrnd Z i) (rgot Z i) (rsum Z i)).1) :: sl boE ha hc Z.has :: sl grE ga gc (hs.zip Z.got) :: star (List.zipWith gA hs Z.got) :: sl natE ra rc Z.rnd :: sl boE ba bc Z.beg :: slQ rmE fa fc Z.fly :: L) from (by have s2 := zw_put (A := gA) (r' := hd) (c' := rgot Z i) hbi hgi (SubC.out (M := gA hd (rgot Z i) :: zwBut gA i hs Z.got :: blk p (rC Z.kind Z.op Z.root (Z.sum.set i (seekS Z.op (rrnd Z i) (rgot Z i) (rsum Z i)).1).length sa sc ha Z.has.length hc ga Z.got.length gc ra Z.rnd.length rc ba Z.beg.length bc fa Z.fly.length fc Z.sent) :: sl intE sa sc (Z.sum.set i (seekS Z.op (rrnd Z i) (rgot Z i) (rsum Z i)).1) :: sl boE ha hc Z.has :: sl grE ga gc (hs.zip Z.got) :: sl natE ra rc Z.rnd :: sl boE ba bc Z.beg :: slQ rmE fa fc Z.fly :: L) h s); rw [list_set_same hbi, list_set_same hgi] at s2; exact (SubC.out (M := blk p (rC Z.kind Z.op Z.root (Z.sum.set i (seekS Z.op (rrnd Z i) (rgot Z i) (rsum Z i)).1).length sa sc ha Z.has.length hc ga Z.got.length gc ra Z.rnd.length rc ba Z.beg.length bc fa Z.fly.length fc Z.sent) :: sl intE sa sc (Z.sum.set i (seekS Z.op (rrnd Z i) (rgot Z i) (rsum Z i)).1) :: sl boE ha hc Z.has :: sl grE ga gc (hs.zip Z.got) :: star (List.zipWith gA hs Z.got) :: sl natE ra rc Z.rnd :: sl boE ba bc Z.beg :: slQ rmE fa fc Z.fly :: L) h s2))))) (cuta8 (seekS Z.op (rrnd Z i) (rgot Z i) (rsum Z i)).1 hfound)
          · try simp only [bSimp, bSimp2, ne_eq] at h81
            have hnle : ¬ 2 ^ rrnd Y i ≤ i := by rw [← hw2]; omega
            have hgo : scanR f (nextR (setSum Z i (rsum Z i)) i) i = scanR 4 X i := by rw [setSum_same hwZ hi, hZ, ← scanR_go hhs hlt hnle]; exact hsc
            refine J.condF rfl rfl ?_
            refine J.skip rfl ?_
            exact J.weaken (.cons rfl rfl (.cons rfl rfl .nil)) (fun h s => by rw [setSum_same hwZ hi]; exact (fun h s => RB_mk (R := Z) (L := L) ⟨sa, sc, ha, hc, ga, gc, ra, rc, ba, bc, fa, fc, hs⟩ hb (show Sat h (blk p (rC Z.kind Z.op Z.root Z.sum.length sa sc ha Z.has.length hc ga Z.got.length gc ra Z.rnd.length rc ba Z.beg.length bc fa Z.fly.length fc Z.sent) :: sl intE sa sc Z.sum :: sl boE ha hc Z.has :: sl grE ga gc (hs.zip Z.got) :: star (List.zipWith gA hs Z.got) :: sl natE ra rc Z.rnd :: sl boE ba bc Z.beg :: slQ rmE fa fc Z.fly :: L) from SubC.out h s)) h s) (cuta8 (rsum Z i) hgo)
      · intro cuta4
        refine J.region rfl ?_
        refine JO.pur rfl rfl rfl (Pur.move rfl) ?_
        refine JO.pur rfl rfl rfl (Pur.nilCheck rfl) ?_
        refine JO.pur rfl rfl rfl (Pur.fieldAddr rfl) ?_
        refine JO.pur rfl rfl rfl (Pur.load rfl (CellIn.blk rfl)) ?_
        refine JO.pur rfl rfl rfl (Pur.move rfl) ?_
        refine JO.pur rfl rfl rfl (Pur.idx rfl rfl rfl (by first | rfl | (simp; done) | omega | (rw [List.length_zip]; omega) | (rw [List.length_set]; omega)) rfl (by rw [ylb]; exact hi)) ?_
        refine JO.pur rfl rfl rfl (Pur.load rfl (CellIn.el0 rfl (getD_get false (by rw [ylb]; exact hi)) rfl)) ?_
        refine JO.setv (u' := .bool (rbeg Y i)) 41 rfl rfl ?_
        refine JO.pur rfl rfl rfl (Pur.not rfl) ?_
        refine JO.nil ?_
        refine J.splitB 42 rfl (fun h42 => ?_) (fun h42 => ?_)
        · try simp only [bSimp, bSimp2, ne_eq] at h42
          have hbe : ¬ rbeg Y i = true := by simpa using h42
          refine J.condT rfl rfl ?_
          refine J.seq rfl ?_
          refine J.region rfl ?_
          refine JO.pur rfl rfl rfl (Pur.move rfl) ?_
          refine JO.pur rfl rfl rfl (Pur.nilCheck rfl) ?_
          refine JO.pur rfl rfl rfl (Pur.fieldAddr rfl) ?_
          refine JO.pur rfl rfl rfl (Pur.load rfl (CellIn.blk rfl)) ?_
          refine JO.pur rfl rfl rfl (Pur.move rfl) ?_
          refine JO.pur rfl rfl rfl (Pur.idx rfl rfl rfl (by first | rfl | (simp; done) | omega | (rw [List.length_zip]; omega) | (rw [List.length_set]; omega)) rfl (by rw [ylb]; exact hi)) ?_
          refine JO.effN rfl rfl (Eff.storeS0 (z' := true) rfl rfl rfl rfl (getD_get false (by rw [ylb]; exact hi)) .head) ?_
          rintro _ _ ⟨rfl, rfl⟩
          refine JO.nil ?_
          refine J.seq rfl ?_
          refine J.region rfl ?_
          refine JO.pur rfl rfl rfl (Pur.move rfl) ?_
          refine JO.pur rfl rfl rfl (Pur.move rfl) ?_
          refine JO.pur rfl rfl rfl (Pur.add rfl rfl (wr64 (by omega))) ?_
          refine JO.pur rfl rfl rfl (Pur.move rfl) ?_
          refine JO.pur rfl rfl rfl (Pur.nilCheck rfl) ?_
          refine JO.pur rfl rfl rfl (Pur.fieldAddr rfl) ?_
          refine JO.pur rfl rfl rfl (Pur.load rfl (CellIn.blk rfl)) ?_
          refine JO.pur rfl rfl rfl (Pur.lss rfl rfl) ?_
          refine JO.nil ?_
          refine J.splitB 56 rfl (fun h56 => ?_) (fun h56 => ?_)
          · try simp only [bSimp, bSimp2, ne_eq] at h56
            have hpw : i + 2 ^ rrnd Y i < Y.sum.length := by rw [← hw2]; omega
            have hst : startR Y i = sendR (setBeg Y i true) ⟨i, i + 2 ^ rrnd Y i, rrnd Y i, rsum Y i, false⟩ := by unfold startR; rw [if_neg hbe, if_pos hpw]
            refine J.condT rfl rfl ?_
            refine J.mask0 (n := 21) [20] rfl Try.mixed rfl (by kernel_rfl) ?_
            refine JM.take 0 (fun _ h => h) rfl (by kernel_rfl) rfl rfl rfl (m' := 1) rfl (Pur.move rfl) ?_
            refine JM.take 1 (fun _ h => h) rfl (by kernel_rfl) rfl rfl rfl (m' := 3) rfl (Pur.move rfl) ?_
            refine JM.take 2 (fun _ h => h) rfl (by kernel_rfl) rfl rfl rfl (m' := 7) rfl (Pur.move rfl) ?_
            refine JM.take 3 (fun _ h => h) rfl (by kernel_rfl) rfl rfl rfl (m' := 15) rfl (Pur.move rfl) ?_
            refine JM.take 4 (fun _ h => h) rfl (by kernel_rfl) rfl rfl rfl (m' := 31) rfl (Pur.add rfl rfl (wr64 (by omega))) ?_
            refine JM.setv (u' := .int .i64 ((i + 2 ^ rrnd Y i : Nat) : Int)) 61 rfl (congrArg (Value.int .i64) (by rw [← hw2]; rfl)) ?_
            refine JM.takeF 5 (.inr (fun _ h => h)) rfl (by kernel_rfl) rfl rfl rfl (m' := 63) rfl (Pur.move rfl) ?_
            refine JM.takeF 6 (.inr (fun _ h => h)) rfl (by kernel_rfl) rfl rfl rfl (m' := 127) rfl (Pur.nilCheck rfl) ?_
            refine JM.takeF 7 (.inr (fun _ h => h)) rfl (by kernel_rfl) rfl rfl rfl (m' := 255) rfl (Pur.fieldAddr rfl) ?_
            refine JM.take 8 (fun _ h => h) rfl (by kernel_rfl) rfl rfl rfl (m' := 511) rfl (Pur.load rfl (CellIn.blk rfl)) ?_
            refine JM.take 9 (fun _ h => h) rfl (by kernel_rfl) rfl rfl rfl (m' := 1023) rfl (Pur.move rfl) ?_
            refine JM.take 10 (fun _ h => h) rfl (by kernel_rfl) rfl rfl rfl (m' := 2047) rfl (Pur.idx rfl rfl rfl (by first | rfl | (simp; done) | omega | (rw [List.length_zip]; omega) | (rw [List.length_set]; omega)) rfl (by rw [ylr]; exact hi)) ?_
            refine JM.take 11 (fun _ h => h) rfl (by kernel_rfl) rfl rfl rfl (m' := 4095) rfl (Pur.load rfl (CellIn.el0 rfl (getD_get 0 (by rw [ylr]; exact hi)) rfl)) ?_
            refine JM.setv (u' := .int .i64 (rrnd Y i : Int)) 68 rfl rfl ?_
            refine JM.takeF 12 (.inr (fun _ h => h)) rfl (by kernel_rfl) rfl rfl rfl (m' := 8191) rfl (Pur.move rfl) ?_
            refine JM.takeF 13 (.inr (fun _ h => h)) rfl (by kernel_rfl) rfl rfl rfl (m' := 16383) rfl (Pur.nilCheck rfl) ?_
            refine JM.takeF 14 (.inr (fun _ h => h)) rfl (by kernel_rfl) rfl rfl rfl (m' := 32767) rfl (Pur.fieldAddr rfl) ?_
            refine JM.take 15 (fun _ h => h) rfl (by kernel_rfl) rfl rfl rfl (m' := 65535) rfl (Pur.load rfl (CellIn.blk rfl)) ?_
            refine JM.take 16 (fun _ h => h) rfl (by kernel_rfl) rfl rfl rfl (m' := 131071) rfl (Pur.move rfl) ?_
            refine JM.take 17 (fun _ h => h) rfl (by kernel_rfl) rfl rfl rfl (m' := 262143) rfl (Pur.idx rfl rfl rfl (by first | rfl | (simp; done) | omega | (rw [List.length_zip]; omega) | (rw [List.length_set]; omega)) rfl (by rw [yls]; exact hi)) ?_
            refine JM.take 18 (fun _ h => h) rfl (by kernel_rfl) rfl rfl rfl (m' := 524287) rfl (Pur.load rfl (CellIn.el0 rfl (getD_get 0 (by rw [yls]; exact hi)) rfl)) ?_
            refine JM.setv (u' := .int .i64 (rsum Y i)) 75 rfl rfl ?_
            refine JM.take 19 (fun _ h => h) rfl (by kernel_rfl) rfl rfl rfl (m' := 1048575) rfl (Pur.build (cs := [_, _, _, _, _]) rfl rfl) ?_
            refine JM.imp (M := RB p (setBeg Y i true) :: L) (fun h s => by have e : Y.beg.length = (Y.beg.set i true).length := (by simp); rw [e] at s; exact (fun h s => RB_mk (R := (setBeg Y i true)) (L := L) ⟨sa, sc, ha, hc, ga, gc, ra, rc, ba, bc, fa, fc, hs⟩ hb (show Sat h (blk p (rC Y.kind Y.op Y.root Y.sum.length sa sc ha Y.has.length hc ga Y.got.length gc ra Y.rnd.length rc ba (Y.beg.set i true).length bc fa Y.fly.length fc Y.sent) :: sl intE sa sc Y.sum :: sl boE ha hc Y.has :: sl grE ga gc (hs.zip Y.got) :: star (List.zipWith gA hs Y.got) :: sl natE ra rc Y.rnd :: sl boE ba bc (Y.beg.set i true) :: slQ rmE fa fc Y.fly :: L) from SubC.out h s)) h s) ?_
            refine JM.one (i := 20) (by kernel_rfl) ?_
            refine JMi.eff rfl rfl rfl rfl (m' := 2097151) rfl (Eff.call rfl (rsend_ok (X := setBeg Y i true) (m := ⟨i, i + 2 ^ rrnd Y i, rrnd Y i, rsum Y i, false⟩) (hwY.beg i true) (by show Y.fly.length ≤ 100000; omega))) ?_
            rintro _ _ ⟨rfl, rfl⟩
            refine ⟨.inl (by simp), ?_⟩
            refine JM.done rfl ?_
            exact J.weaken (.cons rfl rfl (.cons rfl rfl (.cons rfl rfl .nil))) (fun h s => by rw [hst]; exact SubC.out h s) (cuta4 () trivial)
          · try simp only [bSimp, bSimp2, ne_eq] at h56
            have hpw : ¬ i + 2 ^ rrnd Y i < Y.sum.length := by rw [← hw2]; omega
            have hst : startR Y i = setBeg Y i true := by unfold startR; rw [if_neg hbe, if_neg hpw]
            refine J.condF rfl rfl ?_
            refine J.skip rfl ?_
            exact J.weaken (.cons rfl rfl (.cons rfl rfl (.cons rfl rfl .nil))) (fun h s => by rw [hst]; have e : Y.beg.length = (Y.beg.set i true).length := (by simp); rw [e] at s; exact (fun h s => RB_mk (R := (setBeg Y i true)) (L := L) ⟨sa, sc, ha, hc, ga, gc, ra, rc, ba, bc, fa, fc, hs⟩ hb (show Sat h (blk p (rC Y.kind Y.op Y.root Y.sum.length sa sc ha Y.has.length hc ga Y.got.length gc ra Y.rnd.length rc ba (Y.beg.set i true).length bc fa Y.fly.length fc Y.sent) :: sl intE sa sc Y.sum :: sl boE ha hc Y.has :: sl grE ga gc (hs.zip Y.got) :: star (List.zipWith gA hs Y.got) :: sl natE ra rc Y.rnd :: sl boE ba bc (Y.beg.set i true) :: slQ rmE fa fc Y.fly :: L) from SubC.out h s)) h s) (cuta4 () trivial)
        · try simp only [bSimp, bSimp2, ne_eq] at h42
          have hbe : rbeg Y i = true := by simpa using h42
          have hst : startR Y i = Y := if_pos hbe
          refine J.condF rfl rfl ?_
          refine J.skip rfl ?_
          exact J.weaken (.cons rfl rfl (.cons rfl rfl (.cons rfl rfl .nil))) (fun h s => by rw [hst]; exact (fun h s => RB_mk (R := Y) (L := L) ⟨sa, sc, ha, hc, ga, gc, ra, rc, ba, bc, fa, fc, hs⟩ hb (show Sat h (blk p (rC Y.kind Y.op Y.root Y.sum.length sa sc ha Y.has.length hc ga Y.got.length gc ra Y.rnd.length rc ba Y.beg.length bc fa Y.fly.length fc Y.sent) :: sl intE sa sc Y.sum :: sl boE ha hc Y.has :: sl grE ga gc (hs.zip Y.got) :: star (List.zipWith gA hs Y.got) :: sl natE ra rc Y.rnd :: sl boE ba bc Y.beg :: slQ rmE fa fc Y.fly :: L) from SubC.out h s)) h s) (cuta4 () trivial)
  · try simp only [bSimp, bSimp2, ne_eq] at h14
    have hhs : rhas Y i = true := by simpa using h14
    refine J.condF rfl rfl ?_
    refine J.exit rfl rfl ?_
    refine J.fin rfl ?_
    refine ⟨_, _, ⟨rfl, rfl⟩, rfl, fun h s => ?_⟩
    rw [← hsc, scanR_has hhs]
    exact (fun h s => RB_mk (R := Y) (L := L) ⟨sa, sc, ha, hc, ga, gc, ra, rc, ba, bc, fa, fc, hs⟩ hb (show Sat h (blk p (rC Y.kind Y.op Y.root Y.sum.length sa sc ha Y.has.length hc ga Y.got.length gc ra Y.rnd.length rc ba Y.beg.length bc fa Y.fly.length fc Y.sent) :: sl intE sa sc Y.sum :: sl boE ha hc Y.has :: sl grE ga gc (hs.zip Y.got) :: star (List.zipWith gA hs Y.got) :: sl natE ra rc Y.rnd :: sl boE ba bc Y.beg :: slQ rmE fa fc Y.fly :: L) from SubC.out h s)) h s

end Go.Proofs.Ytoikjjpleonllaa
