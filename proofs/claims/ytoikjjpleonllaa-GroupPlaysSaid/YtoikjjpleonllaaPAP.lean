/-
  A part of the proof of the claim that this folder bears.
-/
import Derived.Test.YtoikjjpleonllaaPAO
/- The text R5. -/
set_option linter.unusedVariables false
set_option linter.unusedSimpArgs false
set_option maxRecDepth 10000
namespace Go.Proofs.Ytoikjjpleonllaa
open Go Go.KK Gr Rg

set_option maxHeartbeats 4000000 in
theorem rdeliver_ok {L : List Asn} {p n : Nat} {X : Rs} (hw : WR n X) {k : Nat} (hk : k < X.fly.length) (hrt : ¬ X.kind = sScan → 0 ≤ X.root ∧ X.root < (n : Int)) (hcs : X.kind = sScan → (msgR X k).ct = false) (ho : okOp X.op) (hf : X.fly.length ≤ 10000) (hgl : ∀ q, (rgot X q).length ≤ 999) :
    CallS Try.prog 15 [.pointer (some ⟨p, 0, none⟩), .int .i64 (k : Int)].toArray (RB p X :: L) (fun v M => v = .int .i64 0 ∧ M = RB p (dlvR X k) :: L) := by
  have wn1 := hw.n1
  have wn8 := hw.n8
  have wls := hw.ls
  have wlh := hw.lh
  have wlg := hw.lg
  have wlr := hw.lr
  have wlb := hw.lb
  obtain ⟨m, hme⟩ : ∃ m, m = msgR X k := ⟨_, rfl⟩
  have hto : m.to < n := by rw [hme]; exact hw.ft _ (List.mem_of_getElem? (getD_get default hk))
  obtain ⟨Y, hY⟩ : ∃ Y, Y = takeR X k := ⟨_, rfl⟩
  have hwY : WR n Y := by rw [hY]; exact hw.take k
  have hrY : Y.root = X.root := by rw [hY]; rfl
  have hkY : Y.kind = X.kind := by rw [hY]; rfl
  have hoY : okOp Y.op := by rw [hY]; exact ho
  have hgY : ∀ q, rgot Y q = rgot X q := fun q => by rw [hY]; rfl
  have hfY : Y.fly.length ≤ X.fly.length := by rw [hY]; show (X.fly.take k ++ X.fly.drop (k + 1)).length ≤ _; rw [List.length_append, List.length_take, List.length_drop]; omega
  have ylg := hwY.lg
  refine CallS.ent ?_
  refine CallS.enter Try.func15 rfl rfl rfl rfl rfl ?_
  refine RB_open fun sa sc ha hc ga gc ra rc ba bc fa fc hs hb => ?_
  refine J.imp (M := blk p (rC X.kind X.op X.root X.sum.length sa sc ha X.has.length hc ga X.got.length gc ra X.rnd.length rc ba X.beg.length bc fa X.fly.length fc X.sent) :: sl intE sa sc X.sum :: sl boE ha hc X.has :: sl grE ga gc (hs.zip X.got) :: star (List.zipWith gA hs X.got) :: sl natE ra rc X.rnd :: sl boE ba bc X.beg :: slQ rmE fa fc X.fly :: L) (fun h s => s) ?_
  refine J.fact (fun h s => (slQ_le (E := rmE) (a := fa) (cap := fc) (xs := X.fly) (L := []) (SubC.out h s)).1) fun hcl => ?_
  refine J.seq rfl ?_
  refine J.region rfl ?_
  refine JO.pur rfl rfl rfl (Pur.assign rfl) ?_
  refine JO.nil ?_
  refine J.seq rfl ?_
  refine J.seq rfl ?_
  refine J.region rfl ?_
  refine JO.pur rfl rfl rfl (Pur.move rfl) ?_
  refine JO.pur rfl rfl rfl (Pur.lss rfl rfl) ?_
  refine JO.pur rfl rfl rfl (Pur.move rfl) ?_
  refine JO.setv (u' := .bool false) 8 rfl (congrArg Value.bool (decide_eq_false (by omega))) ?_
  refine JO.pur rfl rfl rfl (Pur.move rfl) ?_
  refine JO.pur rfl rfl rfl (Pur.move rfl) ?_
  refine JO.pur rfl rfl rfl (Pur.nilCheck rfl) ?_
  refine JO.pur rfl rfl rfl (Pur.fieldAddr rfl) ?_
  refine JO.pur rfl rfl rfl (Pur.load rfl (CellIn.blk rfl)) ?_
  refine JO.pur rfl rfl rfl (Pur.len rfl) ?_
  refine JO.pur rfl rfl rfl (Pur.geq rfl rfl) ?_
  refine JO.pur rfl rfl rfl (Pur.pickF rfl rfl) ?_
  refine JO.nil ?_
  refine J.setv (u' := .bool false) 16 rfl (congrArg Value.bool (decide_eq_false (by omega))) ?_
  refine J.condF rfl rfl ?_
  refine J.skip rfl ?_
  refine J.seq rfl ?_
  refine J.region rfl ?_
  refine JO.pur rfl rfl rfl (Pur.move rfl) ?_
  refine JO.pur rfl rfl rfl (Pur.nilCheck rfl) ?_
  refine JO.pur rfl rfl rfl (Pur.fieldAddr rfl) ?_
  refine JO.pur rfl rfl rfl (Pur.load rfl (CellIn.blk rfl)) ?_
  refine JO.pur rfl rfl rfl (Pur.move rfl) ?_
  refine JO.pur rfl rfl rfl (Pur.idx rfl rfl rfl (by first | rfl | (simp; done) | omega | (rw [List.length_zip]; omega) | (rw [List.length_set]; omega)) rfl hk) ?_
  refine JO.pur rfl rfl rfl (Pur.loadA rfl rfl rfl (CellsIn.el rfl (getD_get default hk))) ?_
  refine JO.setv (u' := rmV (msgR X k)) 23 rfl rfl ?_
  refine JO.eff rfl rfl rfl (Eff.alloc (cs := [_, _, _, _, _]) rfl) ?_
  rintro _ _ ⟨b5, rfl, rfl⟩
  refine JO.effN rfl rfl (Eff.storeBA (cs' := [_, _, _, _, _]) rfl rfl (by rfl) (by rfl) (by rfl)) ?_
  rintro _ _ ⟨rfl, rfl⟩
  refine JO.nil ?_
  refine J.seq rfl ?_
  rw [← hme]
  refine J.mask0 (n := 19) [15, 18] rfl Try.mixed rfl (by kernel_rfl) ?_
  refine JM.takeF 0 (.inr (fun _ h => h)) rfl (by kernel_rfl) rfl rfl rfl (m' := 1) rfl (Pur.move rfl) ?_
  refine JM.takeF 1 (.inr (fun _ h => h)) rfl (by kernel_rfl) rfl rfl rfl (m' := 3) rfl (Pur.move rfl) ?_
  refine JM.take 2 (fun _ h => h) rfl (by kernel_rfl) rfl rfl rfl (m' := 7) rfl (Pur.nilCheck rfl) ?_
  refine JM.take 3 (fun _ h => h) rfl (by kernel_rfl) rfl rfl rfl (m' := 15) rfl (Pur.fieldAddr rfl) ?_
  refine JM.take 4 (fun _ h => h) rfl (by kernel_rfl) rfl rfl rfl (m' := 31) rfl (Pur.load rfl (CellIn.blk rfl)) ?_
  refine JM.take 5 (fun _ h => h) rfl (by kernel_rfl) rfl rfl rfl (m' := 63) rfl (Pur.move rfl) ?_
  refine JM.take 6 (fun _ h => h) rfl (by kernel_rfl) rfl rfl rfl (m' := 127) rfl (Pur.move rfl) ?_
  refine JM.take 7 (fun _ h => h) rfl (by kernel_rfl) rfl rfl rfl (m' := 255) rfl (Pur.slice0m (h := k) (mx := k) rfl rfl rfl rfl rfl (Nat.le_refl _) (by omega)) ?_
  refine JM.takeF 8 (.inr (fun _ h => h)) rfl (by kernel_rfl) rfl rfl rfl (m' := 511) rfl (Pur.move rfl) ?_
  refine JM.take 9 (fun _ h => h) rfl (by kernel_rfl) rfl rfl rfl (m' := 1023) rfl (Pur.nilCheck rfl) ?_
  refine JM.take 10 (fun _ h => h) rfl (by kernel_rfl) rfl rfl rfl (m' := 2047) rfl (Pur.fieldAddr rfl) ?_
  refine JM.take 11 (fun _ h => h) rfl (by kernel_rfl) rfl rfl rfl (m' := 4095) rfl (Pur.load rfl (CellIn.blk rfl)) ?_
  refine JM.take 12 (fun _ h => h) rfl (by kernel_rfl) rfl rfl rfl (m' := 8191) rfl (Pur.move rfl) ?_
  refine JM.take 13 (fun _ h => h) rfl (by kernel_rfl) rfl rfl rfl (m' := 16383) rfl (Pur.add rfl rfl (wr64 (by omega))) ?_
  refine JM.take 14 (fun _ h => h) rfl (by kernel_rfl) rfl rfl rfl (m' := 32767) rfl (Pur.slice1 rfl rfl (show ((k : Nat) : Int) + 1 = ((k + 1 : Nat) : Int) by rfl) (by omega) (by omega)) ?_
  refine JM.one (i := 15) (by kernel_rfl) ?_
  refine JMi.eff rfl rfl rfl rfl (m' := 65535) rfl (Eff.deleteH rfl rfl rfl rfl rfl hk (by omega) (by omega)) ?_
  rintro _ _ ⟨a39, c39, rfl, rfl⟩
  refine ⟨.inl (by simp), ?_⟩
  rw [show X.fly.take k ++ X.fly.drop (k + 1) = (takeR X k).fly from rfl]
  refine JM.takeF 16 (.inl (by kernel_rfl)) rfl (by kernel_rfl) rfl rfl rfl (m' := 131071) rfl (Pur.nilCheck rfl) ?_
  refine JM.takeF 17 (.inl (by kernel_rfl)) rfl (by kernel_rfl) rfl rfl rfl (m' := 262143) rfl (Pur.fieldAddr rfl) ?_
  refine JM.one (i := 18) (by kernel_rfl) ?_
  refine JMi.effN rfl rfl rfl (m' := 524287) rfl (Eff.storeB rfl rfl rfl (.tail (.tail (.tail (.tail (.tail (.tail (.tail (.tail (.tail .head)))))))))) ?_
  rintro _ _ ⟨rfl, rfl⟩
  refine ⟨.inl (by simp), ?_⟩
  refine JM.done rfl ?_
  refine J.seq rfl ?_
  refine J.seq rfl ?_
  refine J.imp (M := RB p Y :: blk b5 (rmC m) :: L) (fun h s => by rw [hY]; exact (fun h s => RB_mk (R := (takeR X k)) (L := (blk b5 (rmC m) :: L)) ⟨sa, sc, ha, hc, ga, gc, ra, rc, ba, bc, a39, c39, hs⟩ hb (show Sat h (blk p (rC X.kind X.op X.root X.sum.length sa sc ha X.has.length hc ga X.got.length gc ra X.rnd.length rc ba X.beg.length bc a39 (takeR X k).fly.length c39 X.sent) :: sl intE sa sc X.sum :: sl boE ha hc X.has :: sl grE ga gc (hs.zip X.got) :: star (List.zipWith gA hs X.got) :: sl natE ra rc X.rnd :: sl boE ba bc X.beg :: slQ rmE a39 c39 (takeR X k).fly :: blk b5 (rmC m) :: L) from SubC.out h s)) h s) ?_
  refine J.region rfl ?_
  refine JO.pur rfl rfl rfl (Pur.fieldAddr rfl) ?_
  refine JO.pur rfl rfl rfl (Pur.load rfl (CellIn.blk rfl)) ?_
  refine JO.nil ?_
  refine J.splitB 43 rfl (fun h43 => ?_) (fun h43 => ?_)
  · try simp only [bSimp, bSimp2, ne_eq] at h43
    have hct : m.ct = true := h43
    have hns : ¬ X.kind = sScan := fun e => by have := hcs e; rw [← hme, hct] at this; cases this
    obtain ⟨hr0, hr1⟩ := hrt hns
    refine J.condT rfl rfl ?_
    refine J.seq rfl ?_
    refine J.region rfl ?_
    refine JO.pur rfl rfl rfl (Pur.move rfl) ?_
    refine JO.pur rfl rfl rfl (Pur.fieldAddr rfl) ?_
    refine JO.pur rfl rfl rfl (Pur.load rfl (CellIn.blk rfl)) ?_
    refine JO.pur rfl rfl rfl (Pur.fieldAddr rfl) ?_
    refine JO.pur rfl rfl rfl (Pur.load rfl (CellIn.blk rfl)) ?_
    refine JO.eff rfl rfl rfl (Eff.call rfl (rcast_ok (X := Y) (i := m.to) (z := m.v) hwY (by rw [hrY]; exact hr0) (by rw [hrY]; exact hr1) hto (by omega))) ?_
    rintro _ _ ⟨rfl, rfl⟩
    refine JO.nil ?_
    refine J.seq rfl ?_
    refine J.region rfl ?_
    refine JO.pur rfl rfl rfl (Pur.assign rfl) ?_
    refine JO.nil ?_
    refine J.ret rfl rfl ?_
    refine ⟨_, _, ⟨rfl, rfl⟩, rfl, fun h s => ?_⟩
    have e : dlvR X k = castR Y m.to m.v := by unfold dlvR; rw [← hme, if_pos hct, hY]
    rw [e]
    exact SubC.out h s
  · try simp only [bSimp, bSimp2, ne_eq] at h43
    have hct : ¬ m.ct = true := fun e => by simp [e] at h43
    refine J.condF rfl rfl ?_
    refine J.skip rfl ?_
    refine J.seq rfl ?_
    obtain ⟨i, hie⟩ : ∃ i, i = m.to := ⟨_, rfl⟩
    have hi : i < n := by rw [hie]; exact hto
    have hglY : (rgot Y i).length ≤ 999 := by rw [hgY]; exact hgl i
    clear hb
    refine RB_open fun sa sc ha hc ga gc ra rc ba bc fa fc hs hb => ?_
    refine J.imp (M := blk p (rC Y.kind Y.op Y.root Y.sum.length sa sc ha Y.has.length hc ga Y.got.length gc ra Y.rnd.length rc ba Y.beg.length bc fa Y.fly.length fc Y.sent) :: sl intE sa sc Y.sum :: sl boE ha hc Y.has :: sl grE ga gc (hs.zip Y.got) :: star (List.zipWith gA hs Y.got) :: sl natE ra rc Y.rnd :: sl boE ba bc Y.beg :: slQ rmE fa fc Y.fly :: blk b5 (rmC m) :: L) (fun h s => s) ?_
    obtain ⟨hd, hbi⟩ : ∃ hd, hs[i]? = some hd := ⟨_, List.getElem?_eq_getElem (by omega)⟩
    have hgi : Y.got[i]? = some (rgot Y i) := getD_get ([] : List Rm) (by omega)
    have hzg := zipr_get hbi hgi
    refine J.imp (M := blk p (rC Y.kind Y.op Y.root Y.sum.length sa sc ha Y.has.length hc ga Y.got.length gc ra Y.rnd.length rc ba Y.beg.length bc fa Y.fly.length fc Y.sent) :: sl intE sa sc Y.sum :: sl boE ha hc Y.has :: sl grE ga gc (hs.zip Y.got) :: gA hd (rgot Y i) :: zwBut gA i hs Y.got :: sl natE ra rc Y.rnd :: sl boE ba bc Y.beg :: slQ rmE fa fc Y.fly :: blk b5 (rmC m) :: L) (fun h s => SubC.out h (zw_open (A := gA) hbi hgi (SubC.out (M := star (List.zipWith gA hs Y.got) :: blk p (rC Y.kind Y.op Y.root Y.sum.length sa sc ha Y.has.length hc ga Y.got.length gc ra Y.rnd.length rc ba Y.beg.length bc fa Y.fly.length fc Y.sent) :: sl intE sa sc Y.sum :: sl boE ha hc Y.has :: sl grE ga gc (hs.zip Y.got) :: sl natE ra rc Y.rnd :: sl boE ba bc Y.beg :: slQ rmE fa fc Y.fly :: blk b5 (rmC m) :: L) h s))) ?_
    refine J.mask0 (n := 19) [16, 18] rfl Try.mixed rfl (by kernel_rfl) ?_
    refine JM.takeF 0 (.inr (fun _ h => h)) rfl (by kernel_rfl) rfl rfl rfl (m' := 1) rfl (Pur.move rfl) ?_
    refine JM.takeF 1 (.inr (fun _ h => h)) rfl (by kernel_rfl) rfl rfl rfl (m' := 3) rfl (Pur.nilCheck rfl) ?_
    refine JM.takeF 2 (.inr (fun _ h => h)) rfl (by kernel_rfl) rfl rfl rfl (m' := 7) rfl (Pur.fieldAddr rfl) ?_
    refine JM.takeF 4 (.inr (fun _ h => h)) rfl (by kernel_rfl) rfl rfl rfl (m' := 23) rfl (Pur.fieldAddr rfl) ?_
    refine JM.takeF 6 (.inr (fun _ h => h)) rfl (by kernel_rfl) rfl rfl rfl (m' := 87) rfl (Pur.move rfl) ?_
    refine JM.takeF 7 (.inr (fun _ h => h)) rfl (by kernel_rfl) rfl rfl rfl (m' := 215) rfl (Pur.nilCheck rfl) ?_
    refine JM.take 8 (fun _ h => h) rfl (by kernel_rfl) rfl rfl rfl (m' := 471) rfl (Pur.fieldAddr rfl) ?_
    refine JM.take 9 (fun _ h => h) rfl (by kernel_rfl) rfl rfl rfl (m' := 983) rfl (Pur.load rfl (CellIn.blk rfl)) ?_
    refine JM.take 10 (fun _ h => h) rfl (by kernel_rfl) rfl rfl rfl (m' := 2007) rfl (Pur.fieldAddr rfl) ?_
    refine JM.take 11 (fun _ h => h) rfl (by kernel_rfl) rfl rfl rfl (m' := 4055) rfl (Pur.load rfl (CellIn.blk rfl)) ?_
    refine JM.setv (u' := .int .i64 (i : Int)) 61 rfl (congrArg (Value.int .i64) (by rw [hie])) ?_
    refine JM.take 12 (fun _ h => h) rfl (by kernel_rfl) rfl rfl rfl (m' := 8151) rfl (Pur.idx rfl rfl rfl (by first | rfl | (simp; done) | omega | (rw [List.length_zip]; omega) | (rw [List.length_set]; omega)) rfl (by rw [List.length_zip]; omega)) ?_
    refine JM.take 13 (fun _ h => h) rfl (by kernel_rfl) rfl rfl rfl (m' := 16343) rfl (Pur.load rfl (CellIn.el0 rfl hzg rfl)) ?_
    refine JM.setv (u' := .slice hd.1 (rgot Y i).length hd.2) 63 rfl rfl ?_
    refine JM.take 14 (fun _ h => h) rfl (by kernel_rfl) rfl rfl rfl (m' := 32727) rfl (Pur.loadA rfl rfl rfl CellsIn.blk) ?_
    refine JM.setv (u' := rmV m) 64 rfl rfl ?_
    refine JM.many (rs := [3, 5, 15]) (by kernel_rfl) rfl (fun i hi => ?_)
    simp only [List.mem_cons, List.not_mem_nil, or_false] at hi
    rcases hi with rfl | rfl | rfl
    · skip
      refine JMi.eff rfl rfl rfl rfl (m' := 32735) rfl (Pur.eff (Pur.load rfl (CellIn.blk rfl))) ?_
      rintro _ _ ⟨rfl, rfl⟩
      refine ⟨.inr (fun _ h => h), ?_⟩
      refine JM.many (rs := [5, 15]) (by kernel_rfl) rfl (fun i hi => ?_)
      simp only [List.mem_cons, List.not_mem_nil, or_false] at hi
      rcases hi with rfl | rfl
      · skip
        refine JMi.eff rfl rfl rfl rfl (m' := 32767) rfl (Pur.eff (Pur.load rfl (CellIn.blk rfl))) ?_
        rintro _ _ ⟨rfl, rfl⟩
        refine ⟨.inr (fun _ h => h), ?_⟩
        refine JM.setv (u' := .int .i64 (i : Int)) 55 rfl (congrArg (Value.int .i64) (by rw [hie])) ?_
        refine JM.one (i := 15) (by kernel_rfl) ?_
        refine JMi.eff rfl rfl rfl rfl (m' := 65535) rfl (Eff.buildSlice rmE [m] rfl rfl rfl rfl rfl rfl rfl) ?_
        rintro _ _ ⟨b65, rfl, -, rfl⟩
        refine ⟨.inr (fun _ h => h.tail), ?_⟩
        refine JM.one (i := 16) (by kernel_rfl) ?_
        refine JMi.eff rfl rfl rfl rfl (m' := 131071) rfl (Eff.append rfl rfl rfl rfl (by first | rfl | omega | (simp; done) | (simp; omega)) (by first | rfl | omega | (simp; done) | (simp; omega)) (by decide) (by simp; omega) (by simp; omega) (fun h => by cases h)) ?_
        rintro _ _ ⟨a66, c66, rfl, rfl⟩
        refine ⟨.inl (by simp), ?_⟩
        refine JM.setv (u' := .slice a66 (rgot Y i ++ [m]).length c66) 66 rfl (by rw [List.length_append]) ?_
        refine JM.one (i := 17) (by kernel_rfl) ?_
        refine JMi.eff rfl rfl rfl rfl (m' := 262143) rfl (Pur.eff (Pur.idx rfl rfl rfl (by first | rfl | (simp; done) | omega | (rw [List.length_zip]; omega) | (rw [List.length_set]; omega)) rfl (by rw [List.length_zip]; omega))) ?_
        rintro _ _ ⟨rfl, rfl⟩
        refine ⟨.inl (.inr (by kernel_rfl)), ?_⟩
        refine JM.one (i := 18) (by kernel_rfl) ?_
        refine JMi.effN rfl rfl rfl (m' := 524287) rfl (Eff.storeS0 (z' := ((a66, c66), rgot Y i ++ [m])) rfl rfl rfl rfl hzg .head) ?_
        rintro _ _ ⟨rfl, rfl⟩
        refine ⟨.inl (by simp), ?_⟩
        refine JM.done rfl ?_
        refine J.seq rfl ?_
        refine J.seq rfl ?_
        obtain ⟨Z, hZ⟩ : ∃ Z, Z = setGot Y i (rgot Y i ++ [m]) := ⟨_, rfl⟩
        refine J.imp (M := RB p Z :: blk b5 (rmC m) :: L) (fun h s => by have s1 : Sat h (gA (a66, c66) (rgot Y i ++ [m]) :: zwBut gA i hs Y.got :: blk p (rC Y.kind Y.op Y.root Y.sum.length sa sc ha Y.has.length hc ga (Y.got.set i (rgot Y i ++ [m])).length gc ra Y.rnd.length rc ba Y.beg.length bc fa Y.fly.length fc Y.sent) :: sl intE sa sc Y.sum :: sl boE ha hc Y.has :: sl grE ga gc ((hs.zip Y.got).set i ((a66, c66), rgot Y i ++ [m])) :: sl natE ra rc Y.rnd :: sl boE ba bc Y.beg :: slQ rmE fa fc Y.fly :: blk b5 (rmC m) :: L) := (by have e1 : Y.got.length = (Y.got.set i (rgot Y i ++ [m])).length := (by simp); rw [← e1]; exact SubC.out h s); have s2 := zw_put (A := gA) (r' := (a66, c66)) (c' := rgot Y i ++ [m]) hbi hgi s1; rw [zipr_set hb] at s2; rw [hZ]; exact RB_mk (R := setGot Y i (rgot Y i ++ [m])) (L := blk b5 (rmC m) :: L) ⟨sa, sc, ha, hc, ga, gc, ra, rc, ba, bc, fa, fc, (hs.set i (a66, c66))⟩ (by show (hs.set i (a66, c66)).length = (Y.got.set i (rgot Y i ++ [m])).length; rw [List.length_set, List.length_set]; exact hb) (show Sat h (blk p (rC Y.kind Y.op Y.root Y.sum.length sa sc ha Y.has.length hc ga (Y.got.set i (rgot Y i ++ [m])).length gc ra Y.rnd.length rc ba Y.beg.length bc fa Y.fly.length fc Y.sent) :: sl intE sa sc Y.sum :: sl boE ha hc Y.has :: sl grE ga gc ((hs.set i (a66, c66)).zip (Y.got.set i (rgot Y i ++ [m]))) :: star (List.zipWith gA (hs.set i (a66, c66)) (Y.got.set i (rgot Y i ++ [m]))) :: sl natE ra rc Y.rnd :: sl boE ba bc Y.beg :: slQ rmE fa fc Y.fly :: blk b5 (rmC m) :: L) from SubC.out h s2)) ?_
        have hwZ : WR n Z := by rw [hZ]; exact hwY.got i _
        have hkZ : Z.kind = X.kind := by rw [hZ]; exact hkY
        have hoZ : okOp Z.op := by rw [hZ]; exact hoY
        have hfZ : Z.fly.length = Y.fly.length := by rw [hZ]; rfl
        have hrZ : Z.root = X.root := by rw [hZ]; exact hrY
        have hgZ : (rgot Z i).length ≤ 1000 := by rw [hZ]; show ((Y.got.set i (rgot Y i ++ [m])).getD i []).length ≤ 1000; rw [getD_set [] _ (by rw [hwY.lg]; exact hi), if_pos rfl, List.length_append]; have := hgl i; rw [← hgY] at this; simp; omega
        clear hb hbi hgi hzg
        refine RB_open fun sa sc ha hc ga gc ra rc ba bc fa fc hs hb => ?_
        refine J.imp (M := blk p (rC Z.kind Z.op Z.root Z.sum.length sa sc ha Z.has.length hc ga Z.got.length gc ra Z.rnd.length rc ba Z.beg.length bc fa Z.fly.length fc Z.sent) :: sl intE sa sc Z.sum :: sl boE ha hc Z.has :: sl grE ga gc (hs.zip Z.got) :: star (List.zipWith gA hs Z.got) :: sl natE ra rc Z.rnd :: sl boE ba bc Z.beg :: slQ rmE fa fc Z.fly :: blk b5 (rmC m) :: L) (fun h s => s) ?_
        refine J.region rfl ?_
        refine JO.pur rfl rfl rfl (Pur.move rfl) ?_
        refine JO.pur rfl rfl rfl (Pur.nilCheck rfl) ?_
        refine JO.pur rfl rfl rfl (Pur.fieldAddr rfl) ?_
        refine JO.pur rfl rfl rfl (Pur.load rfl (CellIn.blk rfl)) ?_
        refine JO.pur rfl rfl rfl (Pur.eqlT rfl rfl) ?_
        refine JO.nil ?_
        refine J.splitB 72 rfl (fun h72 => ?_) (fun h72 => ?_)
        · try simp only [bSimp, bSimp2, ne_eq] at h72
          have hsc : X.kind = sScan := by rw [← hkZ]; exact h72
          refine J.condT rfl rfl ?_
          refine J.region rfl ?_
          refine JO.pur rfl rfl rfl (Pur.move rfl) ?_
          refine JO.pur rfl rfl rfl (Pur.fieldAddr rfl) ?_
          refine JO.pur rfl rfl rfl (Pur.load rfl (CellIn.blk rfl)) ?_
          refine JO.setv (u' := .int .i64 (i : Int)) 75 rfl (congrArg (Value.int .i64) (by rw [hie])) ?_
          refine JO.imp (M := RB p Z :: blk b5 (rmC m) :: L) (fun h s => RB_mk (R := Z) (L := (blk b5 (rmC m) :: L)) ⟨sa, sc, ha, hc, ga, gc, ra, rc, ba, bc, fa, fc, hs⟩ hb (show Sat h (blk p (rC Z.kind Z.op Z.root Z.sum.length sa sc ha Z.has.length hc ga Z.got.length gc ra Z.rnd.length rc ba Z.beg.length bc fa Z.fly.length fc Z.sent) :: sl intE sa sc Z.sum :: sl boE ha hc Z.has :: sl grE ga gc (hs.zip Z.got) :: star (List.zipWith gA hs Z.got) :: sl natE ra rc Z.rnd :: sl boE ba bc Z.beg :: slQ rmE fa fc Z.fly :: blk b5 (rmC m) :: L) from SubC.out h s)) ?_
          refine JO.eff rfl rfl rfl (Eff.call rfl (rscan_ok (X := Z) (i := i) hwZ hi hoZ (by omega) hgZ)) ?_
          rintro _ _ ⟨rfl, rfl⟩
          refine JO.nil ?_
          refine J.seq rfl ?_
          refine J.region rfl ?_
          refine JO.pur rfl rfl rfl (Pur.assign rfl) ?_
          refine JO.nil ?_
          refine J.ret rfl rfl ?_
          refine ⟨_, _, ⟨rfl, rfl⟩, rfl, fun h s => ?_⟩
          have hYg : rgot X i = rgot Y i := hgY i ▸ rfl
          first
          | (have e : dlvR X k = scanR 4 Z i := by unfold dlvR; rw [← hme, if_neg hct, if_pos hsc, hZ, hY, hie]; rfl
             rw [e]; exact SubC.out h s)
          | (have e : dlvR X k = combR Z i := by unfold dlvR; rw [← hme, if_neg hct, if_neg hns, hZ, hY, hie]; rfl
             rw [e]; exact SubC.out h s)
        · try simp only [bSimp, bSimp2, ne_eq] at h72
          have hns : ¬ X.kind = sScan := by rw [← hkZ]; exact h72
          obtain ⟨hr0, hr1⟩ := hrt hns
          refine J.condF rfl rfl ?_
          refine J.region rfl ?_
          refine JO.pur rfl rfl rfl (Pur.move rfl) ?_
          refine JO.pur rfl rfl rfl (Pur.fieldAddr rfl) ?_
          refine JO.pur rfl rfl rfl (Pur.load rfl (CellIn.blk rfl)) ?_
          refine JO.setv (u' := .int .i64 (i : Int)) 79 rfl (congrArg (Value.int .i64) (by rw [hie])) ?_
          refine JO.imp (M := RB p Z :: blk b5 (rmC m) :: L) (fun h s => RB_mk (R := Z) (L := (blk b5 (rmC m) :: L)) ⟨sa, sc, ha, hc, ga, gc, ra, rc, ba, bc, fa, fc, hs⟩ hb (show Sat h (blk p (rC Z.kind Z.op Z.root Z.sum.length sa sc ha Z.has.length hc ga Z.got.length gc ra Z.rnd.length rc ba Z.beg.length bc fa Z.fly.length fc Z.sent) :: sl intE sa sc Z.sum :: sl boE ha hc Z.has :: sl grE ga gc (hs.zip Z.got) :: star (List.zipWith gA hs Z.got) :: sl natE ra rc Z.rnd :: sl boE ba bc Z.beg :: slQ rmE fa fc Z.fly :: blk b5 (rmC m) :: L) from SubC.out h s)) ?_
          refine JO.eff rfl rfl rfl (Eff.call rfl (rcomb_ok (X := Z) (i := i) hwZ (by rw [hrZ]; exact hr0) (by rw [hrZ]; exact hr1) hi hoZ (by omega) hgZ)) ?_
          rintro _ _ ⟨rfl, rfl⟩
          refine JO.nil ?_
          refine J.seq rfl ?_
          refine J.region rfl ?_
          refine JO.pur rfl rfl rfl (Pur.assign rfl) ?_
          refine JO.nil ?_
          refine J.ret rfl rfl ?_
          refine ⟨_, _, ⟨rfl, rfl⟩, rfl, fun h s => ?_⟩
          have hYg : rgot X i = rgot Y i := hgY i ▸ rfl
          first
          | (have e : dlvR X k = scanR 4 Z i := by unfold dlvR; rw [← hme, if_neg hct, if_pos hsc, hZ, hY, hie]; rfl
             rw [e]; exact SubC.out h s)
          | (have e : dlvR X k = combR Z i := by unfold dlvR; rw [← hme, if_neg hct, if_neg hns, hZ, hY, hie]; rfl
             rw [e]; exact SubC.out h s)
      · skip
        refine JMi.eff rfl rfl rfl rfl (m' := 65503) rfl (Eff.buildSlice rmE [m] rfl rfl rfl rfl rfl rfl rfl) ?_
        rintro _ _ ⟨b65, rfl, -, rfl⟩
        refine ⟨.inr (fun _ h => h.tail), ?_⟩
        refine JM.many (rs := [5, 16]) (by kernel_rfl) rfl (fun i hi => ?_)
        simp only [List.mem_cons, List.not_mem_nil, or_false] at hi
        rcases hi with rfl | rfl
        · skip
          refine JMi.eff rfl rfl rfl rfl (m' := 65535) rfl (Pur.eff (Pur.load rfl (CellIn.blk rfl))) ?_
          rintro _ _ ⟨rfl, rfl⟩
          refine ⟨.inr (fun _ h => h.tail), ?_⟩
          refine JM.setv (u' := .int .i64 (i : Int)) 55 rfl (congrArg (Value.int .i64) (by rw [hie])) ?_
          refine JM.one (i := 16) (by kernel_rfl) ?_
          refine JMi.eff rfl rfl rfl rfl (m' := 131071) rfl (Eff.append rfl rfl rfl rfl (by first | rfl | omega | (simp; done) | (simp; omega)) (by first | rfl | omega | (simp; done) | (simp; omega)) (by decide) (by simp; omega) (by simp; omega) (fun h => by cases h)) ?_
          rintro _ _ ⟨a66, c66, rfl, rfl⟩
          refine ⟨.inl (by simp), ?_⟩
          refine JM.setv (u' := .slice a66 (rgot Y i ++ [m]).length c66) 66 rfl (by rw [List.length_append]) ?_
          refine JM.one (i := 17) (by kernel_rfl) ?_
          refine JMi.eff rfl rfl rfl rfl (m' := 262143) rfl (Pur.eff (Pur.idx rfl rfl rfl (by first | rfl | (simp; done) | omega | (rw [List.length_zip]; omega) | (rw [List.length_set]; omega)) rfl (by rw [List.length_zip]; omega))) ?_
          rintro _ _ ⟨rfl, rfl⟩
          refine ⟨.inl (.inr (by kernel_rfl)), ?_⟩
          refine JM.one (i := 18) (by kernel_rfl) ?_
          refine JMi.effN rfl rfl rfl (m' := 524287) rfl (Eff.storeS0 (z' := ((a66, c66), rgot Y i ++ [m])) rfl rfl rfl rfl hzg .head) ?_
          rintro _ _ ⟨rfl, rfl⟩
          refine ⟨.inl (by simp), ?_⟩
          refine JM.done rfl ?_
          refine J.seq rfl ?_
          refine J.seq rfl ?_
          obtain ⟨Z, hZ⟩ : ∃ Z, Z = setGot Y i (rgot Y i ++ [m]) := ⟨_, rfl⟩
          refine J.imp (M := RB p Z :: blk b5 (rmC m) :: L) (fun h s => by have s1 : Sat h (gA (a66, c66) (rgot Y i ++ [m]) :: zwBut gA i hs Y.got :: blk p (rC Y.kind Y.op Y.root Y.sum.length sa sc ha Y.has.length hc ga (Y.got.set i (rgot Y i ++ [m])).length gc ra Y.rnd.length rc ba Y.beg.length bc fa Y.fly.length fc Y.sent) :: sl intE sa sc Y.sum :: sl boE ha hc Y.has :: sl grE ga gc ((hs.zip Y.got).set i ((a66, c66), rgot Y i ++ [m])) :: sl natE ra rc Y.rnd :: sl boE ba bc Y.beg :: slQ rmE fa fc Y.fly :: blk b5 (rmC m) :: L) := (by have e1 : Y.got.length = (Y.got.set i (rgot Y i ++ [m])).length := (by simp); rw [← e1]; exact SubC.out h s); have s2 := zw_put (A := gA) (r' := (a66, c66)) (c' := rgot Y i ++ [m]) hbi hgi s1; rw [zipr_set hb] at s2; rw [hZ]; exact RB_mk (R := setGot Y i (rgot Y i ++ [m])) (L := blk b5 (rmC m) :: L) ⟨sa, sc, ha, hc, ga, gc, ra, rc, ba, bc, fa, fc, (hs.set i (a66, c66))⟩ (by show (hs.set i (a66, c66)).length = (Y.got.set i (rgot Y i ++ [m])).length; rw [List.length_set, List.length_set]; exact hb) (show Sat h (blk p (rC Y.kind Y.op Y.root Y.sum.length sa sc ha Y.has.length hc ga (Y.got.set i (rgot Y i ++ [m])).length gc ra Y.rnd.length rc ba Y.beg.length bc fa Y.fly.length fc Y.sent) :: sl intE sa sc Y.sum :: sl boE ha hc Y.has :: sl grE ga gc ((hs.set i (a66, c66)).zip (Y.got.set i (rgot Y i ++ [m]))) :: star (List.zipWith gA (hs.set i (a66, c66)) (Y.got.set i (rgot Y i ++ [m]))) :: sl natE ra rc Y.rnd :: sl boE ba bc Y.beg :: slQ rmE fa fc Y.fly :: blk b5 (rmC m) :: L) from SubC.out h s2)) ?_
          have hwZ : WR n Z := by rw [hZ]; exact hwY.got i _
          have hkZ : Z.kind = X.kind := by rw [hZ]; exact hkY
          have hoZ : okOp Z.op := by rw [hZ]; exact hoY
          have hfZ : Z.fly.length = Y.fly.length := by rw [hZ]; rfl
          have hrZ : Z.root = X.root := by rw [hZ]; exact hrY
          have hgZ : (rgot Z i).length ≤ 1000 := by rw [hZ]; show ((Y.got.set i (rgot Y i ++ [m])).getD i []).length ≤ 1000; rw [getD_set [] _ (by rw [hwY.lg]; exact hi), if_pos rfl, List.length_append]; have := hgl i; rw [← hgY] at this; simp; omega
          clear hb hbi hgi hzg
          refine RB_open fun sa sc ha hc ga gc ra rc ba bc fa fc hs hb => ?_
          refine J.imp (M := blk p (rC Z.kind Z.op Z.root Z.sum.length sa sc ha Z.has.length hc ga Z.got.length gc ra Z.rnd.length rc ba Z.beg.length bc fa Z.fly.length fc Z.sent) :: sl intE sa sc Z.sum :: sl boE ha hc Z.has :: sl grE ga gc (hs.zip Z.got) :: star (List.zipWith gA hs Z.got) :: sl natE ra rc Z.rnd :: sl boE ba bc Z.beg :: slQ rmE fa fc Z.fly :: blk b5 (rmC m) :: L) (fun h s => s) ?_
          refine J.region rfl ?_
          refine JO.pur rfl rfl rfl (Pur.move rfl) ?_
          refine JO.pur rfl rfl rfl (Pur.nilCheck rfl) ?_
          refine JO.pur rfl rfl rfl (Pur.fieldAddr rfl) ?_
          refine JO.pur rfl rfl rfl (Pur.load rfl (CellIn.blk rfl)) ?_
          refine JO.pur rfl rfl rfl (Pur.eqlT rfl rfl) ?_
          refine JO.nil ?_
          refine J.splitB 72 rfl (fun h72 => ?_) (fun h72 => ?_)
          · try simp only [bSimp, bSimp2, ne_eq] at h72
            have hsc : X.kind = sScan := by rw [← hkZ]; exact h72
            refine J.condT rfl rfl ?_
            refine J.region rfl ?_
            refine JO.pur rfl rfl rfl (Pur.move rfl) ?_
            refine JO.pur rfl rfl rfl (Pur.fieldAddr rfl) ?_
            refine JO.pur rfl rfl rfl (Pur.load rfl (CellIn.blk rfl)) ?_
            refine JO.setv (u' := .int .i64 (i : Int)) 75 rfl (congrArg (Value.int .i64) (by rw [hie])) ?_
            refine JO.imp (M := RB p Z :: blk b5 (rmC m) :: L) (fun h s => RB_mk (R := Z) (L := (blk b5 (rmC m) :: L)) ⟨sa, sc, ha, hc, ga, gc, ra, rc, ba, bc, fa, fc, hs⟩ hb (show Sat h (blk p (rC Z.kind Z.op Z.root Z.sum.length sa sc ha Z.has.length hc ga Z.got.length gc ra Z.rnd.length rc ba Z.beg.length bc fa Z.fly.length fc Z.sent) :: sl intE sa sc Z.sum :: sl boE ha hc Z.has :: sl grE ga gc (hs.zip Z.got) :: star (List.zipWith gA hs Z.got) :: sl natE ra rc Z.rnd :: sl boE ba bc Z.beg :: slQ rmE fa fc Z.fly :: blk b5 (rmC m) :: L) from SubC.out h s)) ?_
            refine JO.eff rfl rfl rfl (Eff.call rfl (rscan_ok (X := Z) (i := i) hwZ hi hoZ (by omega) hgZ)) ?_
            rintro _ _ ⟨rfl, rfl⟩
            refine JO.nil ?_
            refine J.seq rfl ?_
            refine J.region rfl ?_
            refine JO.pur rfl rfl rfl (Pur.assign rfl) ?_
            refine JO.nil ?_
            refine J.ret rfl rfl ?_
            refine ⟨_, _, ⟨rfl, rfl⟩, rfl, fun h s => ?_⟩
            have hYg : rgot X i = rgot Y i := hgY i ▸ rfl
            first
            | (have e : dlvR X k = scanR 4 Z i := by unfold dlvR; rw [← hme, if_neg hct, if_pos hsc, hZ, hY, hie]; rfl
               rw [e]; exact SubC.out h s)
            | (have e : dlvR X k = combR Z i := by unfold dlvR; rw [← hme, if_neg hct, if_neg hns, hZ, hY, hie]; rfl
               rw [e]; exact SubC.out h s)
          · try simp only [bSimp, bSimp2, ne_eq] at h72
            have hns : ¬ X.kind = sScan := by rw [← hkZ]; exact h72
            obtain ⟨hr0, hr1⟩ := hrt hns
            refine J.condF rfl rfl ?_
            refine J.region rfl ?_
            refine JO.pur rfl rfl rfl (Pur.move rfl) ?_
            refine JO.pur rfl rfl rfl (Pur.fieldAddr rfl) ?_
            refine JO.pur rfl rfl rfl (Pur.load rfl (CellIn.blk rfl)) ?_
            refine JO.setv (u' := .int .i64 (i : Int)) 79 rfl (congrArg (Value.int .i64) (by rw [hie])) ?_
            refine JO.imp (M := RB p Z :: blk b5 (rmC m) :: L) (fun h s => RB_mk (R := Z) (L := (blk b5 (rmC m) :: L)) ⟨sa, sc, ha, hc, ga, gc, ra, rc, ba, bc, fa, fc, hs⟩ hb (show Sat h (blk p (rC Z.kind Z.op Z.root Z.sum.length sa sc ha Z.has.length hc ga Z.got.length gc ra Z.rnd.length rc ba Z.beg.length bc fa Z.fly.length fc Z.sent) :: sl intE sa sc Z.sum :: sl boE ha hc Z.has :: sl grE ga gc (hs.zip Z.got) :: star (List.zipWith gA hs Z.got) :: sl natE ra rc Z.rnd :: sl boE ba bc Z.beg :: slQ rmE fa fc Z.fly :: blk b5 (rmC m) :: L) from SubC.out h s)) ?_
            refine JO.eff rfl rfl rfl (Eff.call rfl (rcomb_ok (X := Z) (i := i) hwZ (by rw [hrZ]; exact hr0) (by rw [hrZ]; exact hr1) hi hoZ (by omega) hgZ)) ?_
            rintro _ _ ⟨rfl, rfl⟩
            refine JO.nil ?_
            refine J.seq rfl ?_
            refine J.region rfl ?_
            refine JO.pur rfl rfl rfl (Pur.assign rfl) ?_
            refine JO.nil ?_
            refine J.ret rfl rfl ?_
            refine ⟨_, _, ⟨rfl, rfl⟩, rfl, fun h s => ?_⟩
            have hYg : rgot X i = rgot Y i := hgY i ▸ rfl
            first
            | (have e : dlvR X k = scanR 4 Z i := by unfold dlvR; rw [← hme, if_neg hct, if_pos hsc, hZ, hY, hie]; rfl
               rw [e]; exact SubC.out h s)
            | (have e : dlvR X k = combR Z i := by unfold dlvR; rw [← hme, if_neg hct, if_neg hns, hZ, hY, hie]; rfl
               rw [e]; exact SubC.out h s)
        · skip
          refine JMi.eff rfl rfl rfl rfl (m' := 131039) rfl (Eff.append rfl rfl rfl rfl (by first | rfl | omega | (simp; done) | (simp; omega)) (by first | rfl | omega | (simp; done) | (simp; omega)) (by decide) (by simp; omega) (by simp; omega) (fun h => by cases h)) ?_
          rintro _ _ ⟨a66, c66, rfl, rfl⟩
          refine ⟨.inl (by simp), ?_⟩
          refine JM.setv (u' := .slice a66 (rgot Y i ++ [m]).length c66) 66 rfl (by rw [List.length_append]) ?_
          refine JM.one (i := 5) (by kernel_rfl) ?_
          refine JMi.eff rfl rfl rfl rfl (m' := 131071) rfl (Pur.eff (Pur.load rfl (CellIn.blk rfl))) ?_
          rintro _ _ ⟨rfl, rfl⟩
          refine ⟨.inl (.inr (by kernel_rfl)), ?_⟩
          refine JM.setv (u' := .int .i64 (i : Int)) 55 rfl (congrArg (Value.int .i64) (by rw [hie])) ?_
          refine JM.one (i := 17) (by kernel_rfl) ?_
          refine JMi.eff rfl rfl rfl rfl (m' := 262143) rfl (Pur.eff (Pur.idx rfl rfl rfl (by first | rfl | (simp; done) | omega | (rw [List.length_zip]; omega) | (rw [List.length_set]; omega)) rfl (by rw [List.length_zip]; omega))) ?_
          rintro _ _ ⟨rfl, rfl⟩
          refine ⟨.inl (.inr (by kernel_rfl)), ?_⟩
          refine JM.one (i := 18) (by kernel_rfl) ?_
          refine JMi.effN rfl rfl rfl (m' := 524287) rfl (Eff.storeS0 (z' := ((a66, c66), rgot Y i ++ [m])) rfl rfl rfl rfl hzg .head) ?_
          rintro _ _ ⟨rfl, rfl⟩
          refine ⟨.inl (by simp), ?_⟩
          refine JM.done rfl ?_
          refine J.seq rfl ?_
          refine J.seq rfl ?_
          obtain ⟨Z, hZ⟩ : ∃ Z, Z = setGot Y i (rgot Y i ++ [m]) := ⟨_, rfl⟩
          refine J.imp (M := RB p Z :: blk b5 (rmC m) :: L) (fun h s => by have s1 : Sat h (gA (a66, c66) (rgot Y i ++ [m]) :: zwBut gA i hs Y.got :: blk p (rC Y.kind Y.op Y.root Y.sum.length sa sc ha Y.has.length hc ga (Y.got.set i (rgot Y i ++ [m])).length gc ra Y.rnd.length rc ba Y.beg.length bc fa Y.fly.length fc Y.sent) :: sl intE sa sc Y.sum :: sl boE ha hc Y.has :: sl grE ga gc ((hs.zip Y.got).set i ((a66, c66), rgot Y i ++ [m])) :: sl natE ra rc Y.rnd :: sl boE ba bc Y.beg :: slQ rmE fa fc Y.fly :: blk b5 (rmC m) :: L) := (by have e1 : Y.got.length = (Y.got.set i (rgot Y i ++ [m])).length := (by simp); rw [← e1]; exact SubC.out h s); have s2 := zw_put (A := gA) (r' := (a66, c66)) (c' := rgot Y i ++ [m]) hbi hgi s1; rw [zipr_set hb] at s2; rw [hZ]; exact RB_mk (R := setGot Y i (rgot Y i ++ [m])) (L := blk b5 (rmC m) :: L) ⟨sa, sc, ha, hc, ga, gc, ra, rc, ba, bc, fa, fc, (hs.set i (a66, c66))⟩ (by show (hs.set i (a66, c66)).length = (Y.got.set i (rgot Y i ++ [m])).length; rw [List.length_set, List.length_set]; exact hb) (show Sat h (blk p (rC Y.kind Y.op Y.root Y.sum.length sa sc ha Y.has.length hc ga (Y.got.set i (rgot Y i ++ [m])).length gc ra Y.rnd.length rc ba Y.beg.length bc fa Y.fly.length fc Y.sent) :: sl intE sa sc Y.sum :: sl boE ha hc Y.has :: sl grE ga gc ((hs.set i (a66, c66)).zip (Y.got.set i (rgot Y i ++ [m]))) :: star (List.zipWith gA (hs.set i (a66, c66)) (Y.got.set i (rgot Y i ++ [m]))) :: sl natE ra rc Y.rnd :: sl boE ba bc Y.beg :: slQ rmE fa fc Y.fly :: blk b5 (rmC m) :: L) from SubC.out h s2)) ?_
          have hwZ : WR n Z := by rw [hZ]; exact hwY.got i _
          have hkZ : Z.kind = X.kind := by rw [hZ]; exact hkY
          have hoZ : okOp Z.op := by rw [hZ]; exact hoY
          have hfZ : Z.fly.length = Y.fly.length := by rw [hZ]; rfl
          have hrZ : Z.root = X.root := by rw [hZ]; exact hrY
          have hgZ : (rgot Z i).length ≤ 1000 := by rw [hZ]; show ((Y.got.set i (rgot Y i ++ [m])).getD i []).length ≤ 1000; rw [getD_set [] _ (by rw [hwY.lg]; exact hi), if_pos rfl, List.length_append]; have := hgl i; rw [← hgY] at this; simp; omega
          clear hb hbi hgi hzg
          refine RB_open fun sa sc ha hc ga gc ra rc ba bc fa fc hs hb => ?_
          refine J.imp (M := blk p (rC Z.kind Z.op Z.root Z.sum.length sa sc ha Z.has.length hc ga Z.got.length gc ra Z.rnd.length rc ba Z.beg.length bc fa Z.fly.length fc Z.sent) :: sl intE sa sc Z.sum :: sl boE ha hc Z.has :: sl grE ga gc (hs.zip Z.got) :: star (List.zipWith gA hs Z.got) :: sl natE ra rc Z.rnd :: sl boE ba bc Z.beg :: slQ rmE fa fc Z.fly :: blk b5 (rmC m) :: L) (fun h s => s) ?_
          refine J.region rfl ?_
          refine JO.pur rfl rfl rfl (Pur.move rfl) ?_
          refine JO.pur rfl rfl rfl (Pur.nilCheck rfl) ?_
          refine JO.pur rfl rfl rfl (Pur.fieldAddr rfl) ?_
          refine JO.pur rfl rfl rfl (Pur.load rfl (CellIn.blk rfl)) ?_
          refine JO.pur rfl rfl rfl (Pur.eqlT rfl rfl) ?_
          refine JO.nil ?_
          refine J.splitB 72 rfl (fun h72 => ?_) (fun h72 => ?_)
          · try simp only [bSimp, bSimp2, ne_eq] at h72
            have hsc : X.kind = sScan := by rw [← hkZ]; exact h72
            refine J.condT rfl rfl ?_
            refine J.region rfl ?_
            refine JO.pur rfl rfl rfl (Pur.move rfl) ?_
            refine JO.pur rfl rfl rfl (Pur.fieldAddr rfl) ?_
            refine JO.pur rfl rfl rfl (Pur.load rfl (CellIn.blk rfl)) ?_
            refine JO.setv (u' := .int .i64 (i : Int)) 75 rfl (congrArg (Value.int .i64) (by rw [hie])) ?_
            refine JO.imp (M := RB p Z :: blk b5 (rmC m) :: L) (fun h s => RB_mk (R := Z) (L := (blk b5 (rmC m) :: L)) ⟨sa, sc, ha, hc, ga, gc, ra, rc, ba, bc, fa, fc, hs⟩ hb (show Sat h (blk p (rC Z.kind Z.op Z.root Z.sum.length sa sc ha Z.has.length hc ga Z.got.length gc ra Z.rnd.length rc ba Z.beg.length bc fa Z.fly.length fc Z.sent) :: sl intE sa sc Z.sum :: sl boE ha hc Z.has :: sl grE ga gc (hs.zip Z.got) :: star (List.zipWith gA hs Z.got) :: sl natE ra rc Z.rnd :: sl boE ba bc Z.beg :: slQ rmE fa fc Z.fly :: blk b5 (rmC m) :: L) from SubC.out h s)) ?_
            refine JO.eff rfl rfl rfl (Eff.call rfl (rscan_ok (X := Z) (i := i) hwZ hi hoZ (by omega) hgZ)) ?_
            rintro _ _ ⟨rfl, rfl⟩
            refine JO.nil ?_
            refine J.seq rfl ?_
            refine J.region rfl ?_
            refine JO.pur rfl rfl rfl (Pur.assign rfl) ?_
            refine JO.nil ?_
            refine J.ret rfl rfl ?_
            refine ⟨_, _, ⟨rfl, rfl⟩, rfl, fun h s => ?_⟩
            have hYg : rgot X i = rgot Y i := hgY i ▸ rfl
            first
            | (have e : dlvR X k = scanR 4 Z i := by unfold dlvR; rw [← hme, if_neg hct, if_pos hsc, hZ, hY, hie]; rfl
               rw [e]; exact SubC.out h s)
            | (have e : dlvR X k = combR Z i := by unfold dlvR; rw [← hme, if_neg hct, if_neg hns, hZ, hY, hie]; rfl
               rw [e]; exact SubC.out h s)
          · try simp only [bSimp, bSimp2, ne_eq] at h72
            have hns : ¬ X.kind = sScan := by rw [← hkZ]; exact h72
            obtain ⟨hr0, hr1⟩ := hrt hns
            refine J.condF rfl rfl ?_
            refine J.region rfl ?_
            refine JO.pur rfl rfl rfl (Pur.move rfl) ?_
            refine JO.pur rfl rfl rfl (Pur.fieldAddr rfl) ?_
            refine JO.pur rfl rfl rfl (Pur.load rfl (CellIn.blk rfl)) ?_
            refine JO.setv (u' := .int .i64 (i : Int)) 79 rfl (congrArg (Value.int .i64) (by rw [hie])) ?_
            refine JO.imp (M := RB p Z :: blk b5 (rmC m) :: L) (fun h s => RB_mk (R := Z) (L := (blk b5 (rmC m) :: L)) ⟨sa, sc, ha, hc, ga, gc, ra, rc, ba, bc, fa, fc, hs⟩ hb (show Sat h (blk p (rC Z.kind Z.op Z.root Z.sum.length sa sc ha Z.has.length hc ga Z.got.length gc ra Z.rnd.length rc ba Z.beg.length bc fa Z.fly.length fc Z.sent) :: sl intE sa sc Z.sum :: sl boE ha hc Z.has :: sl grE ga gc (hs.zip Z.got) :: star (List.zipWith gA hs Z.got) :: sl natE ra rc Z.rnd :: sl boE ba bc Z.beg :: slQ rmE fa fc Z.fly :: blk b5 (rmC m) :: L) from SubC.out h s)) ?_
            refine JO.eff rfl rfl rfl (Eff.call rfl (rcomb_ok (X := Z) (i := i) hwZ (by rw [hrZ]; exact hr0) (by rw [hrZ]; exact hr1) hi hoZ (by omega) hgZ)) ?_
            rintro _ _ ⟨rfl, rfl⟩
            refine JO.nil ?_
            refine J.seq rfl ?_
            refine J.region rfl ?_
            refine JO.pur rfl rfl rfl (Pur.assign rfl) ?_
            refine JO.nil ?_
            refine J.ret rfl rfl ?_
            refine ⟨_, _, ⟨rfl, rfl⟩, rfl, fun h s => ?_⟩
            have hYg : rgot X i = rgot Y i := hgY i ▸ rfl
            first
            | (have e : dlvR X k = scanR 4 Z i := by unfold dlvR; rw [← hme, if_neg hct, if_pos hsc, hZ, hY, hie]; rfl
               rw [e]; exact SubC.out h s)
            | (have e : dlvR X k = combR Z i := by unfold dlvR; rw [← hme, if_neg hct, if_neg hns, hZ, hY, hie]; rfl
               rw [e]; exact SubC.out h s)
    · skip
      refine JMi.eff rfl rfl rfl rfl (m' := 32759) rfl (Pur.eff (Pur.load rfl (CellIn.blk rfl))) ?_
      rintro _ _ ⟨rfl, rfl⟩
      refine ⟨.inr (fun _ h => h), ?_⟩
      refine JM.setv (u' := .int .i64 (i : Int)) 55 rfl (congrArg (Value.int .i64) (by rw [hie])) ?_
      refine JM.many (rs := [3, 15]) (by kernel_rfl) rfl (fun i hi => ?_)
      simp only [List.mem_cons, List.not_mem_nil, or_false] at hi
      rcases hi with rfl | rfl
      · skip
        refine JMi.eff rfl rfl rfl rfl (m' := 32767) rfl (Pur.eff (Pur.load rfl (CellIn.blk rfl))) ?_
        rintro _ _ ⟨rfl, rfl⟩
        refine ⟨.inr (fun _ h => h), ?_⟩
        refine JM.one (i := 15) (by kernel_rfl) ?_
        refine JMi.eff rfl rfl rfl rfl (m' := 65535) rfl (Eff.buildSlice rmE [m] rfl rfl rfl rfl rfl rfl rfl) ?_
        rintro _ _ ⟨b65, rfl, -, rfl⟩
        refine ⟨.inr (fun _ h => h.tail), ?_⟩
        refine JM.one (i := 16) (by kernel_rfl) ?_
        refine JMi.eff rfl rfl rfl rfl (m' := 131071) rfl (Eff.append rfl rfl rfl rfl (by first | rfl | omega | (simp; done) | (simp; omega)) (by first | rfl | omega | (simp; done) | (simp; omega)) (by decide) (by simp; omega) (by simp; omega) (fun h => by cases h)) ?_
        rintro _ _ ⟨a66, c66, rfl, rfl⟩
        refine ⟨.inl (by simp), ?_⟩
        refine JM.setv (u' := .slice a66 (rgot Y i ++ [m]).length c66) 66 rfl (by rw [List.length_append]) ?_
        refine JM.one (i := 17) (by kernel_rfl) ?_
        refine JMi.eff rfl rfl rfl rfl (m' := 262143) rfl (Pur.eff (Pur.idx rfl rfl rfl (by first | rfl | (simp; done) | omega | (rw [List.length_zip]; omega) | (rw [List.length_set]; omega)) rfl (by rw [List.length_zip]; omega))) ?_
        rintro _ _ ⟨rfl, rfl⟩
        refine ⟨.inl (.inr (by kernel_rfl)), ?_⟩
        refine JM.one (i := 18) (by kernel_rfl) ?_
        refine JMi.effN rfl rfl rfl (m' := 524287) rfl (Eff.storeS0 (z' := ((a66, c66), rgot Y i ++ [m])) rfl rfl rfl rfl hzg .head) ?_
        rintro _ _ ⟨rfl, rfl⟩
        refine ⟨.inl (by simp), ?_⟩
        refine JM.done rfl ?_
        refine J.seq rfl ?_
        refine J.seq rfl ?_
        obtain ⟨Z, hZ⟩ : ∃ Z, Z = setGot Y i (rgot Y i ++ [m]) := ⟨_, rfl⟩
        refine J.imp (M := RB p Z :: blk b5 (rmC m) :: L) (fun h s => by have s1 : Sat h (gA (a66, c66) (rgot Y i ++ [m]) :: zwBut gA i hs Y.got :: blk p (rC Y.kind Y.op Y.root Y.sum.length sa sc ha Y.has.length hc ga (Y.got.set i (rgot Y i ++ [m])).length gc ra Y.rnd.length rc ba Y.beg.length bc fa Y.fly.length fc Y.sent) :: sl intE sa sc Y.sum :: sl boE ha hc Y.has :: sl grE ga gc ((hs.zip Y.got).set i ((a66, c66), rgot Y i ++ [m])) :: sl natE ra rc Y.rnd :: sl boE ba bc Y.beg :: slQ rmE fa fc Y.fly :: blk b5 (rmC m) :: L) := (by have e1 : Y.got.length = (Y.got.set i (rgot Y i ++ [m])).length := (by simp); rw [← e1]; exact SubC.out h s); have s2 := zw_put (A := gA) (r' := (a66, c66)) (c' := rgot Y i ++ [m]) hbi hgi s1; rw [zipr_set hb] at s2; rw [hZ]; exact RB_mk (R := setGot Y i (rgot Y i ++ [m])) (L := blk b5 (rmC m) :: L) ⟨sa, sc, ha, hc, ga, gc, ra, rc, ba, bc, fa, fc, (hs.set i (a66, c66))⟩ (by show (hs.set i (a66, c66)).length = (Y.got.set i (rgot Y i ++ [m])).length; rw [List.length_set, List.length_set]; exact hb) (show Sat h (blk p (rC Y.kind Y.op Y.root Y.sum.length sa sc ha Y.has.length hc ga (Y.got.set i (rgot Y i ++ [m])).length gc ra Y.rnd.length rc ba Y.beg.length bc fa Y.fly.length fc Y.sent) :: sl intE sa sc Y.sum :: sl boE ha hc Y.has :: sl grE ga gc ((hs.set i (a66, c66)).zip (Y.got.set i (rgot Y i ++ [m]))) :: star (List.zipWith gA (hs.set i (a66, c66)) (Y.got.set i (rgot Y i ++ [m]))) :: sl natE ra rc Y.rnd :: sl boE ba bc Y.beg :: slQ rmE fa fc Y.fly :: blk b5 (rmC m) :: L) from SubC.out h s2)) ?_
        have hwZ : WR n Z := by rw [hZ]; exact hwY.got i _
        have hkZ : Z.kind = X.kind := by rw [hZ]; exact hkY
        have hoZ : okOp Z.op := by rw [hZ]; exact hoY
        have hfZ : Z.fly.length = Y.fly.length := by rw [hZ]; rfl
        have hrZ : Z.root = X.root := by rw [hZ]; exact hrY
        have hgZ : (rgot Z i).length ≤ 1000 := by rw [hZ]; show ((Y.got.set i (rgot Y i ++ [m])).getD i []).length ≤ 1000; rw [getD_set [] _ (by rw [hwY.lg]; exact hi), if_pos rfl, List.length_append]; have := hgl i; rw [← hgY] at this; simp; omega
        clear hb hbi hgi hzg
        refine RB_open fun sa sc ha hc ga gc ra rc ba bc fa fc hs hb => ?_
        refine J.imp (M := blk p (rC Z.kind Z.op Z.root Z.sum.length sa sc ha Z.has.length hc ga Z.got.length gc ra Z.rnd.length rc ba Z.beg.length bc fa Z.fly.length fc Z.sent) :: sl intE sa sc Z.sum :: sl boE ha hc Z.has :: sl grE ga gc (hs.zip Z.got) :: star (List.zipWith gA hs Z.got) :: sl natE ra rc Z.rnd :: sl boE ba bc Z.beg :: slQ rmE fa fc Z.fly :: blk b5 (rmC m) :: L) (fun h s => s) ?_
        refine J.region rfl ?_
        refine JO.pur rfl rfl rfl (Pur.move rfl) ?_
        refine JO.pur rfl rfl rfl (Pur.nilCheck rfl) ?_
        refine JO.pur rfl rfl rfl (Pur.fieldAddr rfl) ?_
        refine JO.pur rfl rfl rfl (Pur.load rfl (CellIn.blk rfl)) ?_
        refine JO.pur rfl rfl rfl (Pur.eqlT rfl rfl) ?_
        refine JO.nil ?_
        refine J.splitB 72 rfl (fun h72 => ?_) (fun h72 => ?_)
        · try simp only [bSimp, bSimp2, ne_eq] at h72
          have hsc : X.kind = sScan := by rw [← hkZ]; exact h72
          refine J.condT rfl rfl ?_
          refine J.region rfl ?_
          refine JO.pur rfl rfl rfl (Pur.move rfl) ?_
          refine JO.pur rfl rfl rfl (Pur.fieldAddr rfl) ?_
          refine JO.pur rfl rfl rfl (Pur.load rfl (CellIn.blk rfl)) ?_
          refine JO.setv (u' := .int .i64 (i : Int)) 75 rfl (congrArg (Value.int .i64) (by rw [hie])) ?_
          refine JO.imp (M := RB p Z :: blk b5 (rmC m) :: L) (fun h s => RB_mk (R := Z) (L := (blk b5 (rmC m) :: L)) ⟨sa, sc, ha, hc, ga, gc, ra, rc, ba, bc, fa, fc, hs⟩ hb (show Sat h (blk p (rC Z.kind Z.op Z.root Z.sum.length sa sc ha Z.has.length hc ga Z.got.length gc ra Z.rnd.length rc ba Z.beg.length bc fa Z.fly.length fc Z.sent) :: sl intE sa sc Z.sum :: sl boE ha hc Z.has :: sl grE ga gc (hs.zip Z.got) :: star (List.zipWith gA hs Z.got) :: sl natE ra rc Z.rnd :: sl boE ba bc Z.beg :: slQ rmE fa fc Z.fly :: blk b5 (rmC m) :: L) from SubC.out h s)) ?_
          refine JO.eff rfl rfl rfl (Eff.call rfl (rscan_ok (X := Z) (i := i) hwZ hi hoZ (by omega) hgZ)) ?_
          rintro _ _ ⟨rfl, rfl⟩
          refine JO.nil ?_
          refine J.seq rfl ?_
          refine J.region rfl ?_
          refine JO.pur rfl rfl rfl (Pur.assign rfl) ?_
          refine JO.nil ?_
          refine J.ret rfl rfl ?_
          refine ⟨_, _, ⟨rfl, rfl⟩, rfl, fun h s => ?_⟩
          have hYg : rgot X i = rgot Y i := hgY i ▸ rfl
          first
          | (have e : dlvR X k = scanR 4 Z i := by unfold dlvR; rw [← hme, if_neg hct, if_pos hsc, hZ, hY, hie]; rfl
             rw [e]; exact SubC.out h s)
          | (have e : dlvR X k = combR Z i := by unfold dlvR; rw [← hme, if_neg hct, if_neg hns, hZ, hY, hie]; rfl
             rw [e]; exact SubC.out h s)
        · try simp only [bSimp, bSimp2, ne_eq] at h72
          have hns : ¬ X.kind = sScan := by rw [← hkZ]; exact h72
          obtain ⟨hr0, hr1⟩ := hrt hns
          refine J.condF rfl rfl ?_
          refine J.region rfl ?_
          refine JO.pur rfl rfl rfl (Pur.move rfl) ?_
          refine JO.pur rfl rfl rfl (Pur.fieldAddr rfl) ?_
          refine JO.pur rfl rfl rfl (Pur.load rfl (CellIn.blk rfl)) ?_
          refine JO.setv (u' := .int .i64 (i : Int)) 79 rfl (congrArg (Value.int .i64) (by rw [hie])) ?_
          refine JO.imp (M := RB p Z :: blk b5 (rmC m) :: L) (fun h s => RB_mk (R := Z) (L := (blk b5 (rmC m) :: L)) ⟨sa, sc, ha, hc, ga, gc, ra, rc, ba, bc, fa, fc, hs⟩ hb (show Sat h (blk p (rC Z.kind Z.op Z.root Z.sum.length sa sc ha Z.has.length hc ga Z.got.length gc ra Z.rnd.length rc ba Z.beg.length bc fa Z.fly.length fc Z.sent) :: sl intE sa sc Z.sum :: sl boE ha hc Z.has :: sl grE ga gc (hs.zip Z.got) :: star (List.zipWith gA hs Z.got) :: sl natE ra rc Z.rnd :: sl boE ba bc Z.beg :: slQ rmE fa fc Z.fly :: blk b5 (rmC m) :: L) from SubC.out h s)) ?_
          refine JO.eff rfl rfl rfl (Eff.call rfl (rcomb_ok (X := Z) (i := i) hwZ (by rw [hrZ]; exact hr0) (by rw [hrZ]; exact hr1) hi hoZ (by omega) hgZ)) ?_
          rintro _ _ ⟨rfl, rfl⟩
          refine JO.nil ?_
          refine J.seq rfl ?_
          refine J.region rfl ?_
          refine JO.pur rfl rfl rfl (Pur.assign rfl) ?_
          refine JO.nil ?_
          refine J.ret rfl rfl ?_
          refine ⟨_, _, ⟨rfl, rfl⟩, rfl, fun h s => ?_⟩
          have hYg : rgot X i = rgot Y i := hgY i ▸ rfl
          first
          | (have e : dlvR X k = scanR 4 Z i := by unfold dlvR; rw [← hme, if_neg hct, if_pos hsc, hZ, hY, hie]; rfl
             rw [e]; exact SubC.out h s)
          | (have e : dlvR X k = combR Z i := by unfold dlvR; rw [← hme, if_neg hct, if_neg hns, hZ, hY, hie]; rfl
             rw [e]; exact SubC.out h s)
      · skip
        refine JMi.eff rfl rfl rfl rfl (m' := 65527) rfl (Eff.buildSlice rmE [m] rfl rfl rfl rfl rfl rfl rfl) ?_
        rintro _ _ ⟨b65, rfl, -, rfl⟩
        refine ⟨.inr (fun _ h => h.tail), ?_⟩
        refine JM.many (rs := [3, 16]) (by kernel_rfl) rfl (fun i hi => ?_)
        simp only [List.mem_cons, List.not_mem_nil, or_false] at hi
        rcases hi with rfl | rfl
        · skip
          refine JMi.eff rfl rfl rfl rfl (m' := 65535) rfl (Pur.eff (Pur.load rfl (CellIn.blk rfl))) ?_
          rintro _ _ ⟨rfl, rfl⟩
          refine ⟨.inr (fun _ h => h.tail), ?_⟩
          refine JM.one (i := 16) (by kernel_rfl) ?_
          refine JMi.eff rfl rfl rfl rfl (m' := 131071) rfl (Eff.append rfl rfl rfl rfl (by first | rfl | omega | (simp; done) | (simp; omega)) (by first | rfl | omega | (simp; done) | (simp; omega)) (by decide) (by simp; omega) (by simp; omega) (fun h => by cases h)) ?_
          rintro _ _ ⟨a66, c66, rfl, rfl⟩
          refine ⟨.inl (by simp), ?_⟩
          refine JM.setv (u' := .slice a66 (rgot Y i ++ [m]).length c66) 66 rfl (by rw [List.length_append]) ?_
          refine JM.one (i := 17) (by kernel_rfl) ?_
          refine JMi.eff rfl rfl rfl rfl (m' := 262143) rfl (Pur.eff (Pur.idx rfl rfl rfl (by first | rfl | (simp; done) | omega | (rw [List.length_zip]; omega) | (rw [List.length_set]; omega)) rfl (by rw [List.length_zip]; omega))) ?_
          rintro _ _ ⟨rfl, rfl⟩
          refine ⟨.inl (.inr (by kernel_rfl)), ?_⟩
          refine JM.one (i := 18) (by kernel_rfl) ?_
          refine JMi.effN rfl rfl rfl (m' := 524287) rfl (Eff.storeS0 (z' := ((a66, c66), rgot Y i ++ [m])) rfl rfl rfl rfl hzg .head) ?_
          rintro _ _ ⟨rfl, rfl⟩
          refine ⟨.inl (by simp), ?_⟩
          refine JM.done rfl ?_
          refine J.seq rfl ?_
          refine J.seq rfl ?_
          obtain ⟨Z, hZ⟩ : ∃ Z, Z = setGot Y i (rgot Y i ++ [m]) := ⟨_, rfl⟩
          refine J.imp (M := RB p Z :: blk b5 (rmC m) :: L) (fun h s => by have s1 : Sat h (gA (a66, c66) (rgot Y i ++ [m]) :: zwBut gA i hs Y.got :: blk p (rC Y.kind Y.op Y.root Y.sum.length sa sc ha Y.has.length hc ga (Y.got.set i (rgot Y i ++ [m])).length gc ra Y.rnd.length rc ba Y.beg.length bc fa Y.fly.length fc Y.sent) :: sl intE sa sc Y.sum :: sl boE ha hc Y.has :: sl grE ga gc ((hs.zip Y.got).set i ((a66, c66), rgot Y i ++ [m])) :: sl natE ra rc Y.rnd :: sl boE ba bc Y.beg :: slQ rmE fa fc Y.fly :: blk b5 (rmC m) :: L) := (by have e1 : Y.got.length = (Y.got.set i (rgot Y i ++ [m])).length := (by simp); rw [← e1]; exact SubC.out h s); have s2 := zw_put (A := gA) (r' := (a66, c66)) (c' := rgot Y i ++ [m]) hbi hgi s1; rw [zipr_set hb] at s2; rw [hZ]; exact RB_mk (R := setGot Y i (rgot Y i ++ [m])) (L := blk b5 (rmC m) :: L) ⟨sa, sc, ha, hc, ga, gc, ra, rc, ba, bc, fa, fc, (hs.set i (a66, c66))⟩ (by show (hs.set i (a66, c66)).length = (Y.got.set i (rgot Y i ++ [m])).length; rw [List.length_set, List.length_set]; exact hb) (show Sat h (blk p (rC Y.kind Y.op Y.root Y.sum.length sa sc ha Y.has.length hc ga (Y.got.set i (rgot Y i ++ [m])).length gc ra Y.rnd.length rc ba Y.beg.length bc fa Y.fly.length fc Y.sent) :: sl intE sa sc Y.sum :: sl boE ha hc Y.has :: sl grE ga gc ((hs.set i (a66, c66)).zip (Y.got.set i (rgot Y i ++ [m]))) :: star (List.zipWith gA (hs.set i (a66, c66)) (Y.got.set i (rgot Y i ++ [m]))) :: sl natE ra rc Y.rnd :: sl boE ba bc Y.beg :: slQ rmE fa fc Y.fly :: blk b5 (rmC m) :: L) from SubC.out h s2)) ?_
          have hwZ : WR n Z := by rw [hZ]; exact hwY.got i _
          have hkZ : Z.kind = X.kind := by rw [hZ]; exact hkY
          have hoZ : okOp Z.op := by rw [hZ]; exact hoY
          have hfZ : Z.fly.length = Y.fly.length := by rw [hZ]; rfl
          have hrZ : Z.root = X.root := by rw [hZ]; exact hrY
          have hgZ : (rgot Z i).length ≤ 1000 := by rw [hZ]; show ((Y.got.set i (rgot Y i ++ [m])).getD i []).length ≤ 1000; rw [getD_set [] _ (by rw [hwY.lg]; exact hi), if_pos rfl, List.length_append]; have := hgl i; rw [← hgY] at this; simp; omega
          clear hb hbi hgi hzg
          refine RB_open fun sa sc ha hc ga gc ra rc ba bc fa fc hs hb => ?_
          refine J.imp (M := blk p (rC Z.kind Z.op Z.root Z.sum.length sa sc ha Z.has.length hc ga Z.got.length gc ra Z.rnd.length rc ba Z.beg.length bc fa Z.fly.length fc Z.sent) :: sl intE sa sc Z.sum :: sl boE ha hc Z.has :: sl grE ga gc (hs.zip Z.got) :: star (List.zipWith gA hs Z.got) :: sl natE ra rc Z.rnd :: sl boE ba bc Z.beg :: slQ rmE fa fc Z.fly :: blk b5 (rmC m) :: L) (fun h s => s) ?_
          refine J.region rfl ?_
          refine JO.pur rfl rfl rfl (Pur.move rfl) ?_
          refine JO.pur rfl rfl rfl (Pur.nilCheck rfl) ?_
          refine JO.pur rfl rfl rfl (Pur.fieldAddr rfl) ?_
          refine JO.pur rfl rfl rfl (Pur.load rfl (CellIn.blk rfl)) ?_
          refine JO.pur rfl rfl rfl (Pur.eqlT rfl rfl) ?_
          refine JO.nil ?_
          refine J.splitB 72 rfl (fun h72 => ?_) (fun h72 => ?_)
          · try simp only [bSimp, bSimp2, ne_eq] at h72
            have hsc : X.kind = sScan := by rw [← hkZ]; exact h72
            refine J.condT rfl rfl ?_
            refine J.region rfl ?_
            refine JO.pur rfl rfl rfl (Pur.move rfl) ?_
            refine JO.pur rfl rfl rfl (Pur.fieldAddr rfl) ?_
            refine JO.pur rfl rfl rfl (Pur.load rfl (CellIn.blk rfl)) ?_
            refine JO.setv (u' := .int .i64 (i : Int)) 75 rfl (congrArg (Value.int .i64) (by rw [hie])) ?_
            refine JO.imp (M := RB p Z :: blk b5 (rmC m) :: L) (fun h s => RB_mk (R := Z) (L := (blk b5 (rmC m) :: L)) ⟨sa, sc, ha, hc, ga, gc, ra, rc, ba, bc, fa, fc, hs⟩ hb (show Sat h (blk p (rC Z.kind Z.op Z.root Z.sum.length sa sc ha Z.has.length hc ga Z.got.length gc ra Z.rnd.length rc ba Z.beg.length bc fa Z.fly.length fc Z.sent) :: sl intE sa sc Z.sum :: sl boE ha hc Z.has :: sl grE ga gc (hs.zip Z.got) :: star (List.zipWith gA hs Z.got) :: sl natE ra rc Z.rnd :: sl boE ba bc Z.beg :: slQ rmE fa fc Z.fly :: blk b5 (rmC m) :: L) from SubC.out h s)) ?_
            refine JO.eff rfl rfl rfl (Eff.call rfl (rscan_ok (X := Z) (i := i) hwZ hi hoZ (by omega) hgZ)) ?_
            rintro _ _ ⟨rfl, rfl⟩
            refine JO.nil ?_
            refine J.seq rfl ?_
            refine J.region rfl ?_
            refine JO.pur rfl rfl rfl (Pur.assign rfl) ?_
            refine JO.nil ?_
            refine J.ret rfl rfl ?_
            refine ⟨_, _, ⟨rfl, rfl⟩, rfl, fun h s => ?_⟩
            have hYg : rgot X i = rgot Y i := hgY i ▸ rfl
            first
            | (have e : dlvR X k = scanR 4 Z i := by unfold dlvR; rw [← hme, if_neg hct, if_pos hsc, hZ, hY, hie]; rfl
               rw [e]; exact SubC.out h s)
            | (have e : dlvR X k = combR Z i := by unfold dlvR; rw [← hme, if_neg hct, if_neg hns, hZ, hY, hie]; rfl
               rw [e]; exact SubC.out h s)
          · try simp only [bSimp, bSimp2, ne_eq] at h72
            have hns : ¬ X.kind = sScan := by rw [← hkZ]; exact h72
            obtain ⟨hr0, hr1⟩ := hrt hns
            refine J.condF rfl rfl ?_
            refine J.region rfl ?_
            refine JO.pur rfl rfl rfl (Pur.move rfl) ?_
            refine JO.pur rfl rfl rfl (Pur.fieldAddr rfl) ?_
            refine JO.pur rfl rfl rfl (Pur.load rfl (CellIn.blk rfl)) ?_
            refine JO.setv (u' := .int .i64 (i : Int)) 79 rfl (congrArg (Value.int .i64) (by rw [hie])) ?_
            refine JO.imp (M := RB p Z :: blk b5 (rmC m) :: L) (fun h s => RB_mk (R := Z) (L := (blk b5 (rmC m) :: L)) ⟨sa, sc, ha, hc, ga, gc, ra, rc, ba, bc, fa, fc, hs⟩ hb (show Sat h (blk p (rC Z.kind Z.op Z.root Z.sum.length sa sc ha Z.has.length hc ga Z.got.length gc ra Z.rnd.length rc ba Z.beg.length bc fa Z.fly.length fc Z.sent) :: sl intE sa sc Z.sum :: sl boE ha hc Z.has :: sl grE ga gc (hs.zip Z.got) :: star (List.zipWith gA hs Z.got) :: sl natE ra rc Z.rnd :: sl boE ba bc Z.beg :: slQ rmE fa fc Z.fly :: blk b5 (rmC m) :: L) from SubC.out h s)) ?_
            refine JO.eff rfl rfl rfl (Eff.call rfl (rcomb_ok (X := Z) (i := i) hwZ (by rw [hrZ]; exact hr0) (by rw [hrZ]; exact hr1) hi hoZ (by omega) hgZ)) ?_
            rintro _ _ ⟨rfl, rfl⟩
            refine JO.nil ?_
            refine J.seq rfl ?_
            refine J.region rfl ?_
            refine JO.pur rfl rfl rfl (Pur.assign rfl) ?_
            refine JO.nil ?_
            refine J.ret rfl rfl ?_
            refine ⟨_, _, ⟨rfl, rfl⟩, rfl, fun h s => ?_⟩
            have hYg : rgot X i = rgot Y i := hgY i ▸ rfl
            first
            | (have e : dlvR X k = scanR 4 Z i := by unfold dlvR; rw [← hme, if_neg hct, if_pos hsc, hZ, hY, hie]; rfl
               rw [e]; exact SubC.out h s)
            | (have e : dlvR X k = combR Z i := by unfold dlvR; rw [← hme, if_neg hct, if_neg hns, hZ, hY, hie]; rfl
               rw [e]; exact SubC.out h s)
        · skip
          refine JMi.eff rfl rfl rfl rfl (m' := 131063) rfl (Eff.append rfl rfl rfl rfl (by first | rfl | omega | (simp; done) | (simp; omega)) (by first | rfl | omega | (simp; done) | (simp; omega)) (by decide) (by simp; omega) (by simp; omega) (fun h => by cases h)) ?_
          rintro _ _ ⟨a66, c66, rfl, rfl⟩
          refine ⟨.inl (by simp), ?_⟩
          refine JM.setv (u' := .slice a66 (rgot Y i ++ [m]).length c66) 66 rfl (by rw [List.length_append]) ?_
          refine JM.one (i := 3) (by kernel_rfl) ?_
          refine JMi.eff rfl rfl rfl rfl (m' := 131071) rfl (Pur.eff (Pur.load rfl (CellIn.blk rfl))) ?_
          rintro _ _ ⟨rfl, rfl⟩
          refine ⟨.inl (.inr (by kernel_rfl)), ?_⟩
          refine JM.one (i := 17) (by kernel_rfl) ?_
          refine JMi.eff rfl rfl rfl rfl (m' := 262143) rfl (Pur.eff (Pur.idx rfl rfl rfl (by first | rfl | (simp; done) | omega | (rw [List.length_zip]; omega) | (rw [List.length_set]; omega)) rfl (by rw [List.length_zip]; omega))) ?_
          rintro _ _ ⟨rfl, rfl⟩
          refine ⟨.inl (.inr (by kernel_rfl)), ?_⟩
          refine JM.one (i := 18) (by kernel_rfl) ?_
          refine JMi.effN rfl rfl rfl (m' := 524287) rfl (Eff.storeS0 (z' := ((a66, c66), rgot Y i ++ [m])) rfl rfl rfl rfl hzg .head) ?_
          rintro _ _ ⟨rfl, rfl⟩
          refine ⟨.inl (by simp), ?_⟩
          refine JM.done rfl ?_
          refine J.seq rfl ?_
          refine J.seq rfl ?_
          obtain ⟨Z, hZ⟩ : ∃ Z, Z = setGot Y i (rgot Y i ++ [m]) := ⟨_, rfl⟩
          refine J.imp (M := RB p Z :: blk b5 (rmC m) :: L) (fun h s => by have s1 : Sat h (gA (a66, c66) (rgot Y i ++ [m]) :: zwBut gA i hs Y.got :: blk p (rC Y.kind Y.op Y.root Y.sum.length sa sc ha Y.has.length hc ga (Y.got.set i (rgot Y i ++ [m])).length gc ra Y.rnd.length rc ba Y.beg.length bc fa Y.fly.length fc Y.sent) :: sl intE sa sc Y.sum :: sl boE ha hc Y.has :: sl grE ga gc ((hs.zip Y.got).set i ((a66, c66), rgot Y i ++ [m])) :: sl natE ra rc Y.rnd :: sl boE ba bc Y.beg :: slQ rmE fa fc Y.fly :: blk b5 (rmC m) :: L) := (by have e1 : Y.got.length = (Y.got.set i (rgot Y i ++ [m])).length := (by simp); rw [← e1]; exact SubC.out h s); have s2 := zw_put (A := gA) (r' := (a66, c66)) (c' := rgot Y i ++ [m]) hbi hgi s1; rw [zipr_set hb] at s2; rw [hZ]; exact RB_mk (R := setGot Y i (rgot Y i ++ [m])) (L := blk b5 (rmC m) :: L) ⟨sa, sc, ha, hc, ga, gc, ra, rc, ba, bc, fa, fc, (hs.set i (a66, c66))⟩ (by show (hs.set i (a66, c66)).length = (Y.got.set i (rgot Y i ++ [m])).length; rw [List.length_set, List.length_set]; exact hb) (show Sat h (blk p (rC Y.kind Y.op Y.root Y.sum.length sa sc ha Y.has.length hc ga (Y.got.set i (rgot Y i ++ [m])).length gc ra Y.rnd.length rc ba Y.beg.length bc fa Y.fly.length fc Y.sent) :: sl intE sa sc Y.sum :: sl boE ha hc Y.has :: sl grE ga gc ((hs.set i (a66, c66)).zip (Y.got.set i (rgot Y i ++ [m]))) :: star (List.zipWith gA (hs.set i (a66, c66)) (Y.got.set i (rgot Y i ++ [m]))) :: sl natE ra rc Y.rnd :: sl boE ba bc Y.beg :: slQ rmE fa fc Y.fly :: blk b5 (rmC m) :: L) from SubC.out h s2)) ?_
          have hwZ : WR n Z := by rw [hZ]; exact hwY.got i _
          have hkZ : Z.kind = X.kind := by rw [hZ]; exact hkY
          have hoZ : okOp Z.op := by rw [hZ]; exact hoY
          have hfZ : Z.fly.length = Y.fly.length := by rw [hZ]; rfl
          have hrZ : Z.root = X.root := by rw [hZ]; exact hrY
          have hgZ : (rgot Z i).length ≤ 1000 := by rw [hZ]; show ((Y.got.set i (rgot Y i ++ [m])).getD i []).length ≤ 1000; rw [getD_set [] _ (by rw [hwY.lg]; exact hi), if_pos rfl, List.length_append]; have := hgl i; rw [← hgY] at this; simp; omega
          clear hb hbi hgi hzg
          refine RB_open fun sa sc ha hc ga gc ra rc ba bc fa fc hs hb => ?_
          refine J.imp (M := blk p (rC Z.kind Z.op Z.root Z.sum.length sa sc ha Z.has.length hc ga Z.got.length gc ra Z.rnd.length rc ba Z.beg.length bc fa Z.fly.length fc Z.sent) :: sl intE sa sc Z.sum :: sl boE ha hc Z.has :: sl grE ga gc (hs.zip Z.got) :: star (List.zipWith gA hs Z.got) :: sl natE ra rc Z.rnd :: sl boE ba bc Z.beg :: slQ rmE fa fc Z.fly :: blk b5 (rmC m) :: L) (fun h s => s) ?_
          refine J.region rfl ?_
          refine JO.pur rfl rfl rfl (Pur.move rfl) ?_
          refine JO.pur rfl rfl rfl (Pur.nilCheck rfl) ?_
          refine JO.pur rfl rfl rfl (Pur.fieldAddr rfl) ?_
          refine JO.pur rfl rfl rfl (Pur.load rfl (CellIn.blk rfl)) ?_
          refine JO.pur rfl rfl rfl (Pur.eqlT rfl rfl) ?_
          refine JO.nil ?_
          refine J.splitB 72 rfl (fun h72 => ?_) (fun h72 => ?_)
          · try simp only [bSimp, bSimp2, ne_eq] at h72
            have hsc : X.kind = sScan := by rw [← hkZ]; exact h72
            refine J.condT rfl rfl ?_
            refine J.region rfl ?_
            refine JO.pur rfl rfl rfl (Pur.move rfl) ?_
            refine JO.pur rfl rfl rfl (Pur.fieldAddr rfl) ?_
            refine JO.pur rfl rfl rfl (Pur.load rfl (CellIn.blk rfl)) ?_
            refine JO.setv (u' := .int .i64 (i : Int)) 75 rfl (congrArg (Value.int .i64) (by rw [hie])) ?_
            refine JO.imp (M := RB p Z :: blk b5 (rmC m) :: L) (fun h s => RB_mk (R := Z) (L := (blk b5 (rmC m) :: L)) ⟨sa, sc, ha, hc, ga, gc, ra, rc, ba, bc, fa, fc, hs⟩ hb (show Sat h (blk p (rC Z.kind Z.op Z.root Z.sum.length sa sc ha Z.has.length hc ga Z.got.length gc ra Z.rnd.length rc ba Z.beg.length bc fa Z.fly.length fc Z.sent) :: sl intE sa sc Z.sum :: sl boE ha hc Z.has :: sl grE ga gc (hs.zip Z.got) :: star (List.zipWith gA hs Z.got) :: sl natE ra rc Z.rnd :: sl boE ba bc Z.beg :: slQ rmE fa fc Z.fly :: blk b5 (rmC m) :: L) from SubC.out h s)) ?_
            refine JO.eff rfl rfl rfl (Eff.call rfl (rscan_ok (X := Z) (i := i) hwZ hi hoZ (by omega) hgZ)) ?_
            rintro _ _ ⟨rfl, rfl⟩
            refine JO.nil ?_
            refine J.seq rfl ?_
            refine J.region rfl ?_
            refine JO.pur rfl rfl rfl (Pur.assign rfl) ?_
            refine JO.nil ?_
            refine J.ret rfl rfl ?_
            refine ⟨_, _, ⟨rfl, rfl⟩, rfl, fun h s => ?_⟩
            have hYg : rgot X i = rgot Y i := hgY i ▸ rfl
            first
            | (have e : dlvR X k = scanR 4 Z i := by unfold dlvR; rw [← hme, if_neg hct, if_pos hsc, hZ, hY, hie]; rfl
               rw [e]; exact SubC.out h s)
            | (have e : dlvR X k = combR Z i := by unfold dlvR; rw [← hme, if_neg hct, if_neg hns, hZ, hY, hie]; rfl
               rw [e]; exact SubC.out h s)
          · try simp only [bSimp, bSimp2, ne_eq] at h72
            have hns : ¬ X.kind = sScan := by rw [← hkZ]; exact h72
            obtain ⟨hr0, hr1⟩ := hrt hns
            refine J.condF rfl rfl ?_
            refine J.region rfl ?_
            refine JO.pur rfl rfl rfl (Pur.move rfl) ?_
            refine JO.pur rfl rfl rfl (Pur.fieldAddr rfl) ?_
            refine JO.pur rfl rfl rfl (Pur.load rfl (CellIn.blk rfl)) ?_
            refine JO.setv (u' := .int .i64 (i : Int)) 79 rfl (congrArg (Value.int .i64) (by rw [hie])) ?_
            refine JO.imp (M := RB p Z :: blk b5 (rmC m) :: L) (fun h s => RB_mk (R := Z) (L := (blk b5 (rmC m) :: L)) ⟨sa, sc, ha, hc, ga, gc, ra, rc, ba, bc, fa, fc, hs⟩ hb (show Sat h (blk p (rC Z.kind Z.op Z.root Z.sum.length sa sc ha Z.has.length hc ga Z.got.length gc ra Z.rnd.length rc ba Z.beg.length bc fa Z.fly.length fc Z.sent) :: sl intE sa sc Z.sum :: sl boE ha hc Z.has :: sl grE ga gc (hs.zip Z.got) :: star (List.zipWith gA hs Z.got) :: sl natE ra rc Z.rnd :: sl boE ba bc Z.beg :: slQ rmE fa fc Z.fly :: blk b5 (rmC m) :: L) from SubC.out h s)) ?_
            refine JO.eff rfl rfl rfl (Eff.call rfl (rcomb_ok (X := Z) (i := i) hwZ (by rw [hrZ]; exact hr0) (by rw [hrZ]; exact hr1) hi hoZ (by omega) hgZ)) ?_
            rintro _ _ ⟨rfl, rfl⟩
            refine JO.nil ?_
            refine J.seq rfl ?_
            refine J.region rfl ?_
            refine JO.pur rfl rfl rfl (Pur.assign rfl) ?_
            refine JO.nil ?_
            refine J.ret rfl rfl ?_
            refine ⟨_, _, ⟨rfl, rfl⟩, rfl, fun h s => ?_⟩
            have hYg : rgot X i = rgot Y i := hgY i ▸ rfl
            first
            | (have e : dlvR X k = scanR 4 Z i := by unfold dlvR; rw [← hme, if_neg hct, if_pos hsc, hZ, hY, hie]; rfl
               rw [e]; exact SubC.out h s)
            | (have e : dlvR X k = combR Z i := by unfold dlvR; rw [← hme, if_neg hct, if_neg hns, hZ, hY, hie]; rfl
               rw [e]; exact SubC.out h s)
    · skip
      refine JMi.eff rfl rfl rfl rfl (m' := 65495) rfl (Eff.buildSlice rmE [m] rfl rfl rfl rfl rfl rfl rfl) ?_
      rintro _ _ ⟨b65, rfl, -, rfl⟩
      refine ⟨.inr (fun _ h => h.tail), ?_⟩
      refine JM.many (rs := [3, 5, 16]) (by kernel_rfl) rfl (fun i hi => ?_)
      simp only [List.mem_cons, List.not_mem_nil, or_false] at hi
      rcases hi with rfl | rfl | rfl
      · skip
        refine JMi.eff rfl rfl rfl rfl (m' := 65503) rfl (Pur.eff (Pur.load rfl (CellIn.blk rfl))) ?_
        rintro _ _ ⟨rfl, rfl⟩
        refine ⟨.inr (fun _ h => h.tail), ?_⟩
        refine JM.many (rs := [5, 16]) (by kernel_rfl) rfl (fun i hi => ?_)
        simp only [List.mem_cons, List.not_mem_nil, or_false] at hi
        rcases hi with rfl | rfl
        · skip
          refine JMi.eff rfl rfl rfl rfl (m' := 65535) rfl (Pur.eff (Pur.load rfl (CellIn.blk rfl))) ?_
          rintro _ _ ⟨rfl, rfl⟩
          refine ⟨.inr (fun _ h => h.tail), ?_⟩
          refine JM.setv (u' := .int .i64 (i : Int)) 55 rfl (congrArg (Value.int .i64) (by rw [hie])) ?_
          refine JM.one (i := 16) (by kernel_rfl) ?_
          refine JMi.eff rfl rfl rfl rfl (m' := 131071) rfl (Eff.append rfl rfl rfl rfl (by first | rfl | omega | (simp; done) | (simp; omega)) (by first | rfl | omega | (simp; done) | (simp; omega)) (by decide) (by simp; omega) (by simp; omega) (fun h => by cases h)) ?_
          rintro _ _ ⟨a66, c66, rfl, rfl⟩
          refine ⟨.inl (by simp), ?_⟩
          refine JM.setv (u' := .slice a66 (rgot Y i ++ [m]).length c66) 66 rfl (by rw [List.length_append]) ?_
          refine JM.one (i := 17) (by kernel_rfl) ?_
          refine JMi.eff rfl rfl rfl rfl (m' := 262143) rfl (Pur.eff (Pur.idx rfl rfl rfl (by first | rfl | (simp; done) | omega | (rw [List.length_zip]; omega) | (rw [List.length_set]; omega)) rfl (by rw [List.length_zip]; omega))) ?_
          rintro _ _ ⟨rfl, rfl⟩
          refine ⟨.inl (.inr (by kernel_rfl)), ?_⟩
          refine JM.one (i := 18) (by kernel_rfl) ?_
          refine JMi.effN rfl rfl rfl (m' := 524287) rfl (Eff.storeS0 (z' := ((a66, c66), rgot Y i ++ [m])) rfl rfl rfl rfl hzg .head) ?_
          rintro _ _ ⟨rfl, rfl⟩
          refine ⟨.inl (by simp), ?_⟩
          refine JM.done rfl ?_
          refine J.seq rfl ?_
          refine J.seq rfl ?_
          obtain ⟨Z, hZ⟩ : ∃ Z, Z = setGot Y i (rgot Y i ++ [m]) := ⟨_, rfl⟩
          refine J.imp (M := RB p Z :: blk b5 (rmC m) :: L) (fun h s => by have s1 : Sat h (gA (a66, c66) (rgot Y i ++ [m]) :: zwBut gA i hs Y.got :: blk p (rC Y.kind Y.op Y.root Y.sum.length sa sc ha Y.has.length hc ga (Y.got.set i (rgot Y i ++ [m])).length gc ra Y.rnd.length rc ba Y.beg.length bc fa Y.fly.length fc Y.sent) :: sl intE sa sc Y.sum :: sl boE ha hc Y.has :: sl grE ga gc ((hs.zip Y.got).set i ((a66, c66), rgot Y i ++ [m])) :: sl natE ra rc Y.rnd :: sl boE ba bc Y.beg :: slQ rmE fa fc Y.fly :: blk b5 (rmC m) :: L) := (by have e1 : Y.got.length = (Y.got.set i (rgot Y i ++ [m])).length := (by simp); rw [← e1]; exact SubC.out h s); have s2 := zw_put (A := gA) (r' := (a66, c66)) (c' := rgot Y i ++ [m]) hbi hgi s1; rw [zipr_set hb] at s2; rw [hZ]; exact RB_mk (R := setGot Y i (rgot Y i ++ [m])) (L := blk b5 (rmC m) :: L) ⟨sa, sc, ha, hc, ga, gc, ra, rc, ba, bc, fa, fc, (hs.set i (a66, c66))⟩ (by show (hs.set i (a66, c66)).length = (Y.got.set i (rgot Y i ++ [m])).length; rw [List.length_set, List.length_set]; exact hb) (show Sat h (blk p (rC Y.kind Y.op Y.root Y.sum.length sa sc ha Y.has.length hc ga (Y.got.set i (rgot Y i ++ [m])).length gc ra Y.rnd.length rc ba Y.beg.length bc fa Y.fly.length fc Y.sent) :: sl intE sa sc Y.sum :: sl boE ha hc Y.has :: sl grE ga gc ((hs.set i (a66, c66)).zip (Y.got.set i (rgot Y i ++ [m]))) :: star (List.zipWith gA (hs.set i (a66, c66)) (Y.got.set i (rgot Y i ++ [m]))) :: sl natE ra rc Y.rnd :: sl boE ba bc Y.beg :: slQ rmE fa fc Y.fly :: blk b5 (rmC m) :: L) from SubC.out h s2)) ?_
          have hwZ : WR n Z := by rw [hZ]; exact hwY.got i _
          have hkZ : Z.kind = X.kind := by rw [hZ]; exact hkY
          have hoZ : okOp Z.op := by rw [hZ]; exact hoY
          have hfZ : Z.fly.length = Y.fly.length := by rw [hZ]; rfl
          have hrZ : Z.root = X.root := by rw [hZ]; exact hrY
          have hgZ : (rgot Z i).length ≤ 1000 := by rw [hZ]; show ((Y.got.set i (rgot Y i ++ [m])).getD i []).length ≤ 1000; rw [getD_set [] _ (by rw [hwY.lg]; exact hi), if_pos rfl, List.length_append]; have := hgl i; rw [← hgY] at this; simp; omega
          clear hb hbi hgi hzg
          refine RB_open fun sa sc ha hc ga gc ra rc ba bc fa fc hs hb => ?_
          refine J.imp (M := blk p (rC Z.kind Z.op Z.root Z.sum.length sa sc ha Z.has.length hc ga Z.got.length gc ra Z.rnd.length rc ba Z.beg.length bc fa Z.fly.length fc Z.sent) :: sl intE sa sc Z.sum :: sl boE ha hc Z.has :: sl grE ga gc (hs.zip Z.got) :: star (List.zipWith gA hs Z.got) :: sl natE ra rc Z.rnd :: sl boE ba bc Z.beg :: slQ rmE fa fc Z.fly :: blk b5 (rmC m) :: L) (fun h s => s) ?_
          refine J.region rfl ?_
          refine JO.pur rfl rfl rfl (Pur.move rfl) ?_
          refine JO.pur rfl rfl rfl (Pur.nilCheck rfl) ?_
          refine JO.pur rfl rfl rfl (Pur.fieldAddr rfl) ?_
          refine JO.pur rfl rfl rfl (Pur.load rfl (CellIn.blk rfl)) ?_
          refine JO.pur rfl rfl rfl (Pur.eqlT rfl rfl) ?_
          refine JO.nil ?_
          refine J.splitB 72 rfl (fun h72 => ?_) (fun h72 => ?_)
          · try simp only [bSimp, bSimp2, ne_eq] at h72
            have hsc : X.kind = sScan := by rw [← hkZ]; exact h72
            refine J.condT rfl rfl ?_
            refine J.region rfl ?_
            refine JO.pur rfl rfl rfl (Pur.move rfl) ?_
            refine JO.pur rfl rfl rfl (Pur.fieldAddr rfl) ?_
            refine JO.pur rfl rfl rfl (Pur.load rfl (CellIn.blk rfl)) ?_
            refine JO.setv (u' := .int .i64 (i : Int)) 75 rfl (congrArg (Value.int .i64) (by rw [hie])) ?_
            refine JO.imp (M := RB p Z :: blk b5 (rmC m) :: L) (fun h s => RB_mk (R := Z) (L := (blk b5 (rmC m) :: L)) ⟨sa, sc, ha, hc, ga, gc, ra, rc, ba, bc, fa, fc, hs⟩ hb (show Sat h (blk p (rC Z.kind Z.op Z.root Z.sum.length sa sc ha Z.has.length hc ga Z.got.length gc ra Z.rnd.length rc ba Z.beg.length bc fa Z.fly.length fc Z.sent) :: sl intE sa sc Z.sum :: sl boE ha hc Z.has :: sl grE ga gc (hs.zip Z.got) :: star (List.zipWith gA hs Z.got) :: sl natE ra rc Z.rnd :: sl boE ba bc Z.beg :: slQ rmE fa fc Z.fly :: blk b5 (rmC m) :: L) from SubC.out h s)) ?_
            refine JO.eff rfl rfl rfl (Eff.call rfl (rscan_ok (X := Z) (i := i) hwZ hi hoZ (by omega) hgZ)) ?_
            rintro _ _ ⟨rfl, rfl⟩
            refine JO.nil ?_
            refine J.seq rfl ?_
            refine J.region rfl ?_
            refine JO.pur rfl rfl rfl (Pur.assign rfl) ?_
            refine JO.nil ?_
            refine J.ret rfl rfl ?_
            refine ⟨_, _, ⟨rfl, rfl⟩, rfl, fun h s => ?_⟩
            have hYg : rgot X i = rgot Y i := hgY i ▸ rfl
            first
            | (have e : dlvR X k = scanR 4 Z i := by unfold dlvR; rw [← hme, if_neg hct, if_pos hsc, hZ, hY, hie]; rfl
               rw [e]; exact SubC.out h s)
            | (have e : dlvR X k = combR Z i := by unfold dlvR; rw [← hme, if_neg hct, if_neg hns, hZ, hY, hie]; rfl
               rw [e]; exact SubC.out h s)
          · try simp only [bSimp, bSimp2, ne_eq] at h72
            have hns : ¬ X.kind = sScan := by rw [← hkZ]; exact h72
            obtain ⟨hr0, hr1⟩ := hrt hns
            refine J.condF rfl rfl ?_
            refine J.region rfl ?_
            refine JO.pur rfl rfl rfl (Pur.move rfl) ?_
            refine JO.pur rfl rfl rfl (Pur.fieldAddr rfl) ?_
            refine JO.pur rfl rfl rfl (Pur.load rfl (CellIn.blk rfl)) ?_
            refine JO.setv (u' := .int .i64 (i : Int)) 79 rfl (congrArg (Value.int .i64) (by rw [hie])) ?_
            refine JO.imp (M := RB p Z :: blk b5 (rmC m) :: L) (fun h s => RB_mk (R := Z) (L := (blk b5 (rmC m) :: L)) ⟨sa, sc, ha, hc, ga, gc, ra, rc, ba, bc, fa, fc, hs⟩ hb (show Sat h (blk p (rC Z.kind Z.op Z.root Z.sum.length sa sc ha Z.has.length hc ga Z.got.length gc ra Z.rnd.length rc ba Z.beg.length bc fa Z.fly.length fc Z.sent) :: sl intE sa sc Z.sum :: sl boE ha hc Z.has :: sl grE ga gc (hs.zip Z.got) :: star (List.zipWith gA hs Z.got) :: sl natE ra rc Z.rnd :: sl boE ba bc Z.beg :: slQ rmE fa fc Z.fly :: blk b5 (rmC m) :: L) from SubC.out h s)) ?_
            refine JO.eff rfl rfl rfl (Eff.call rfl (rcomb_ok (X := Z) (i := i) hwZ (by rw [hrZ]; exact hr0) (by rw [hrZ]; exact hr1) hi hoZ (by omega) hgZ)) ?_
            rintro _ _ ⟨rfl, rfl⟩
            refine JO.nil ?_
            refine J.seq rfl ?_
            refine J.region rfl ?_
            refine JO.pur rfl rfl rfl (Pur.assign rfl) ?_
            refine JO.nil ?_
            refine J.ret rfl rfl ?_
            refine ⟨_, _, ⟨rfl, rfl⟩, rfl, fun h s => ?_⟩
            have hYg : rgot X i = rgot Y i := hgY i ▸ rfl
            first
            | (have e : dlvR X k = scanR 4 Z i := by unfold dlvR; rw [← hme, if_neg hct, if_pos hsc, hZ, hY, hie]; rfl
               rw [e]; exact SubC.out h s)
            | (have e : dlvR X k = combR Z i := by unfold dlvR; rw [← hme, if_neg hct, if_neg hns, hZ, hY, hie]; rfl
               rw [e]; exact SubC.out h s)
        · skip
          refine JMi.eff rfl rfl rfl rfl (m' := 131039) rfl (Eff.append rfl rfl rfl rfl (by first | rfl | omega | (simp; done) | (simp; omega)) (by first | rfl | omega | (simp; done) | (simp; omega)) (by decide) (by simp; omega) (by simp; omega) (fun h => by cases h)) ?_
          rintro _ _ ⟨a66, c66, rfl, rfl⟩
          refine ⟨.inl (by simp), ?_⟩
          refine JM.setv (u' := .slice a66 (rgot Y i ++ [m]).length c66) 66 rfl (by rw [List.length_append]) ?_
          refine JM.one (i := 5) (by kernel_rfl) ?_
          refine JMi.eff rfl rfl rfl rfl (m' := 131071) rfl (Pur.eff (Pur.load rfl (CellIn.blk rfl))) ?_
          rintro _ _ ⟨rfl, rfl⟩
          refine ⟨.inl (.inr (by kernel_rfl)), ?_⟩
          refine JM.setv (u' := .int .i64 (i : Int)) 55 rfl (congrArg (Value.int .i64) (by rw [hie])) ?_
          refine JM.one (i := 17) (by kernel_rfl) ?_
          refine JMi.eff rfl rfl rfl rfl (m' := 262143) rfl (Pur.eff (Pur.idx rfl rfl rfl (by first | rfl | (simp; done) | omega | (rw [List.length_zip]; omega) | (rw [List.length_set]; omega)) rfl (by rw [List.length_zip]; omega))) ?_
          rintro _ _ ⟨rfl, rfl⟩
          refine ⟨.inl (.inr (by kernel_rfl)), ?_⟩
          refine JM.one (i := 18) (by kernel_rfl) ?_
          refine JMi.effN rfl rfl rfl (m' := 524287) rfl (Eff.storeS0 (z' := ((a66, c66), rgot Y i ++ [m])) rfl rfl rfl rfl hzg .head) ?_
          rintro _ _ ⟨rfl, rfl⟩
          refine ⟨.inl (by simp), ?_⟩
          refine JM.done rfl ?_
          refine J.seq rfl ?_
          refine J.seq rfl ?_
          obtain ⟨Z, hZ⟩ : ∃ Z, Z = setGot Y i (rgot Y i ++ [m]) := ⟨_, rfl⟩
          refine J.imp (M := RB p Z :: blk b5 (rmC m) :: L) (fun h s => by have s1 : Sat h (gA (a66, c66) (rgot Y i ++ [m]) :: zwBut gA i hs Y.got :: blk p (rC Y.kind Y.op Y.root Y.sum.length sa sc ha Y.has.length hc ga (Y.got.set i (rgot Y i ++ [m])).length gc ra Y.rnd.length rc ba Y.beg.length bc fa Y.fly.length fc Y.sent) :: sl intE sa sc Y.sum :: sl boE ha hc Y.has :: sl grE ga gc ((hs.zip Y.got).set i ((a66, c66), rgot Y i ++ [m])) :: sl natE ra rc Y.rnd :: sl boE ba bc Y.beg :: slQ rmE fa fc Y.fly :: blk b5 (rmC m) :: L) := (by have e1 : Y.got.length = (Y.got.set i (rgot Y i ++ [m])).length := (by simp); rw [← e1]; exact SubC.out h s); have s2 := zw_put (A := gA) (r' := (a66, c66)) (c' := rgot Y i ++ [m]) hbi hgi s1; rw [zipr_set hb] at s2; rw [hZ]; exact RB_mk (R := setGot Y i (rgot Y i ++ [m])) (L := blk b5 (rmC m) :: L) ⟨sa, sc, ha, hc, ga, gc, ra, rc, ba, bc, fa, fc, (hs.set i (a66, c66))⟩ (by show (hs.set i (a66, c66)).length = (Y.got.set i (rgot Y i ++ [m])).length; rw [List.length_set, List.length_set]; exact hb) (show Sat h (blk p (rC Y.kind Y.op Y.root Y.sum.length sa sc ha Y.has.length hc ga (Y.got.set i (rgot Y i ++ [m])).length gc ra Y.rnd.length rc ba Y.beg.length bc fa Y.fly.length fc Y.sent) :: sl intE sa sc Y.sum :: sl boE ha hc Y.has :: sl grE ga gc ((hs.set i (a66, c66)).zip (Y.got.set i (rgot Y i ++ [m]))) :: star (List.zipWith gA (hs.set i (a66, c66)) (Y.got.set i (rgot Y i ++ [m]))) :: sl natE ra rc Y.rnd :: sl boE ba bc Y.beg :: slQ rmE fa fc Y.fly :: blk b5 (rmC m) :: L) from SubC.out h s2)) ?_
          have hwZ : WR n Z := by rw [hZ]; exact hwY.got i _
          have hkZ : Z.kind = X.kind := by rw [hZ]; exact hkY
          have hoZ : okOp Z.op := by rw [hZ]; exact hoY
          have hfZ : Z.fly.length = Y.fly.length := by rw [hZ]; rfl
          have hrZ : Z.root = X.root := by rw [hZ]; exact hrY
          have hgZ : (rgot Z i).length ≤ 1000 := by rw [hZ]; show ((Y.got.set i (rgot Y i ++ [m])).getD i []).length ≤ 1000; rw [getD_set [] _ (by rw [hwY.lg]; exact hi), if_pos rfl, List.length_append]; have := hgl i; rw [← hgY] at this; simp; omega
          clear hb hbi hgi hzg
          refine RB_open fun sa sc ha hc ga gc ra rc ba bc fa fc hs hb => ?_
          refine J.imp (M := blk p (rC Z.kind Z.op Z.root Z.sum.length sa sc ha Z.has.length hc ga Z.got.length gc ra Z.rnd.length rc ba Z.beg.length bc fa Z.fly.length fc Z.sent) :: sl intE sa sc Z.sum :: sl boE ha hc Z.has :: sl grE ga gc (hs.zip Z.got) :: star (List.zipWith gA hs Z.got) :: sl natE ra rc Z.rnd :: sl boE ba bc Z.beg :: slQ rmE fa fc Z.fly :: blk b5 (rmC m) :: L) (fun h s => s) ?_
          refine J.region rfl ?_
          refine JO.pur rfl rfl rfl (Pur.move rfl) ?_
          refine JO.pur rfl rfl rfl (Pur.nilCheck rfl) ?_
          refine JO.pur rfl rfl rfl (Pur.fieldAddr rfl) ?_
          refine JO.pur rfl rfl rfl (Pur.load rfl (CellIn.blk rfl)) ?_
          refine JO.pur rfl rfl rfl (Pur.eqlT rfl rfl) ?_
          refine JO.nil ?_
          refine J.splitB 72 rfl (fun h72 => ?_) (fun h72 => ?_)
          · try simp only [bSimp, bSimp2, ne_eq] at h72
            have hsc : X.kind = sScan := by rw [← hkZ]; exact h72
            refine J.condT rfl rfl ?_
            refine J.region rfl ?_
            refine JO.pur rfl rfl rfl (Pur.move rfl) ?_
            refine JO.pur rfl rfl rfl (Pur.fieldAddr rfl) ?_
            refine JO.pur rfl rfl rfl (Pur.load rfl (CellIn.blk rfl)) ?_
            refine JO.setv (u' := .int .i64 (i : Int)) 75 rfl (congrArg (Value.int .i64) (by rw [hie])) ?_
            refine JO.imp (M := RB p Z :: blk b5 (rmC m) :: L) (fun h s => RB_mk (R := Z) (L := (blk b5 (rmC m) :: L)) ⟨sa, sc, ha, hc, ga, gc, ra, rc, ba, bc, fa, fc, hs⟩ hb (show Sat h (blk p (rC Z.kind Z.op Z.root Z.sum.length sa sc ha Z.has.length hc ga Z.got.length gc ra Z.rnd.length rc ba Z.beg.length bc fa Z.fly.length fc Z.sent) :: sl intE sa sc Z.sum :: sl boE ha hc Z.has :: sl grE ga gc (hs.zip Z.got) :: star (List.zipWith gA hs Z.got) :: sl natE ra rc Z.rnd :: sl boE ba bc Z.beg :: slQ rmE fa fc Z.fly :: blk b5 (rmC m) :: L) from SubC.out h s)) ?_
            refine JO.eff rfl rfl rfl (Eff.call rfl (rscan_ok (X := Z) (i := i) hwZ hi hoZ (by omega) hgZ)) ?_
            rintro _ _ ⟨rfl, rfl⟩
            refine JO.nil ?_
            refine J.seq rfl ?_
            refine J.region rfl ?_
            refine JO.pur rfl rfl rfl (Pur.assign rfl) ?_
            refine JO.nil ?_
            refine J.ret rfl rfl ?_
            refine ⟨_, _, ⟨rfl, rfl⟩, rfl, fun h s => ?_⟩
            have hYg : rgot X i = rgot Y i := hgY i ▸ rfl
            first
            | (have e : dlvR X k = scanR 4 Z i := by unfold dlvR; rw [← hme, if_neg hct, if_pos hsc, hZ, hY, hie]; rfl
               rw [e]; exact SubC.out h s)
            | (have e : dlvR X k = combR Z i := by unfold dlvR; rw [← hme, if_neg hct, if_neg hns, hZ, hY, hie]; rfl
               rw [e]; exact SubC.out h s)
          · try simp only [bSimp, bSimp2, ne_eq] at h72
            have hns : ¬ X.kind = sScan := by rw [← hkZ]; exact h72
            obtain ⟨hr0, hr1⟩ := hrt hns
            refine J.condF rfl rfl ?_
            refine J.region rfl ?_
            refine JO.pur rfl rfl rfl (Pur.move rfl) ?_
            refine JO.pur rfl rfl rfl (Pur.fieldAddr rfl) ?_
            refine JO.pur rfl rfl rfl (Pur.load rfl (CellIn.blk rfl)) ?_
            refine JO.setv (u' := .int .i64 (i : Int)) 79 rfl (congrArg (Value.int .i64) (by rw [hie])) ?_
            refine JO.imp (M := RB p Z :: blk b5 (rmC m) :: L) (fun h s => RB_mk (R := Z) (L := (blk b5 (rmC m) :: L)) ⟨sa, sc, ha, hc, ga, gc, ra, rc, ba, bc, fa, fc, hs⟩ hb (show Sat h (blk p (rC Z.kind Z.op Z.root Z.sum.length sa sc ha Z.has.length hc ga Z.got.length gc ra Z.rnd.length rc ba Z.beg.length bc fa Z.fly.length fc Z.sent) :: sl intE sa sc Z.sum :: sl boE ha hc Z.has :: sl grE ga gc (hs.zip Z.got) :: star (List.zipWith gA hs Z.got) :: sl natE ra rc Z.rnd :: sl boE ba bc Z.beg :: slQ rmE fa fc Z.fly :: blk b5 (rmC m) :: L) from SubC.out h s)) ?_
            refine JO.eff rfl rfl rfl (Eff.call rfl (rcomb_ok (X := Z) (i := i) hwZ (by rw [hrZ]; exact hr0) (by rw [hrZ]; exact hr1) hi hoZ (by omega) hgZ)) ?_
            rintro _ _ ⟨rfl, rfl⟩
            refine JO.nil ?_
            refine J.seq rfl ?_
            refine J.region rfl ?_
            refine JO.pur rfl rfl rfl (Pur.assign rfl) ?_
            refine JO.nil ?_
            refine J.ret rfl rfl ?_
            refine ⟨_, _, ⟨rfl, rfl⟩, rfl, fun h s => ?_⟩
            have hYg : rgot X i = rgot Y i := hgY i ▸ rfl
            first
            | (have e : dlvR X k = scanR 4 Z i := by unfold dlvR; rw [← hme, if_neg hct, if_pos hsc, hZ, hY, hie]; rfl
               rw [e]; exact SubC.out h s)
            | (have e : dlvR X k = combR Z i := by unfold dlvR; rw [← hme, if_neg hct, if_neg hns, hZ, hY, hie]; rfl
               rw [e]; exact SubC.out h s)
      · skip
        refine JMi.eff rfl rfl rfl rfl (m' := 65527) rfl (Pur.eff (Pur.load rfl (CellIn.blk rfl))) ?_
        rintro _ _ ⟨rfl, rfl⟩
        refine ⟨.inr (fun _ h => h.tail), ?_⟩
        refine JM.setv (u' := .int .i64 (i : Int)) 55 rfl (congrArg (Value.int .i64) (by rw [hie])) ?_
        refine JM.many (rs := [3, 16]) (by kernel_rfl) rfl (fun i hi => ?_)
        simp only [List.mem_cons, List.not_mem_nil, or_false] at hi
        rcases hi with rfl | rfl
        · skip
          refine JMi.eff rfl rfl rfl rfl (m' := 65535) rfl (Pur.eff (Pur.load rfl (CellIn.blk rfl))) ?_
          rintro _ _ ⟨rfl, rfl⟩
          refine ⟨.inr (fun _ h => h.tail), ?_⟩
          refine JM.one (i := 16) (by kernel_rfl) ?_
          refine JMi.eff rfl rfl rfl rfl (m' := 131071) rfl (Eff.append rfl rfl rfl rfl (by first | rfl | omega | (simp; done) | (simp; omega)) (by first | rfl | omega | (simp; done) | (simp; omega)) (by decide) (by simp; omega) (by simp; omega) (fun h => by cases h)) ?_
          rintro _ _ ⟨a66, c66, rfl, rfl⟩
          refine ⟨.inl (by simp), ?_⟩
          refine JM.setv (u' := .slice a66 (rgot Y i ++ [m]).length c66) 66 rfl (by rw [List.length_append]) ?_
          refine JM.one (i := 17) (by kernel_rfl) ?_
          refine JMi.eff rfl rfl rfl rfl (m' := 262143) rfl (Pur.eff (Pur.idx rfl rfl rfl (by first | rfl | (simp; done) | omega | (rw [List.length_zip]; omega) | (rw [List.length_set]; omega)) rfl (by rw [List.length_zip]; omega))) ?_
          rintro _ _ ⟨rfl, rfl⟩
          refine ⟨.inl (.inr (by kernel_rfl)), ?_⟩
          refine JM.one (i := 18) (by kernel_rfl) ?_
          refine JMi.effN rfl rfl rfl (m' := 524287) rfl (Eff.storeS0 (z' := ((a66, c66), rgot Y i ++ [m])) rfl rfl rfl rfl hzg .head) ?_
          rintro _ _ ⟨rfl, rfl⟩
          refine ⟨.inl (by simp), ?_⟩
          refine JM.done rfl ?_
          refine J.seq rfl ?_
          refine J.seq rfl ?_
          obtain ⟨Z, hZ⟩ : ∃ Z, Z = setGot Y i (rgot Y i ++ [m]) := ⟨_, rfl⟩
          refine J.imp (M := RB p Z :: blk b5 (rmC m) :: L) (fun h s => by have s1 : Sat h (gA (a66, c66) (rgot Y i ++ [m]) :: zwBut gA i hs Y.got :: blk p (rC Y.kind Y.op Y.root Y.sum.length sa sc ha Y.has.length hc ga (Y.got.set i (rgot Y i ++ [m])).length gc ra Y.rnd.length rc ba Y.beg.length bc fa Y.fly.length fc Y.sent) :: sl intE sa sc Y.sum :: sl boE ha hc Y.has :: sl grE ga gc ((hs.zip Y.got).set i ((a66, c66), rgot Y i ++ [m])) :: sl natE ra rc Y.rnd :: sl boE ba bc Y.beg :: slQ rmE fa fc Y.fly :: blk b5 (rmC m) :: L) := (by have e1 : Y.got.length = (Y.got.set i (rgot Y i ++ [m])).length := (by simp); rw [← e1]; exact SubC.out h s); have s2 := zw_put (A := gA) (r' := (a66, c66)) (c' := rgot Y i ++ [m]) hbi hgi s1; rw [zipr_set hb] at s2; rw [hZ]; exact RB_mk (R := setGot Y i (rgot Y i ++ [m])) (L := blk b5 (rmC m) :: L) ⟨sa, sc, ha, hc, ga, gc, ra, rc, ba, bc, fa, fc, (hs.set i (a66, c66))⟩ (by show (hs.set i (a66, c66)).length = (Y.got.set i (rgot Y i ++ [m])).length; rw [List.length_set, List.length_set]; exact hb) (show Sat h (blk p (rC Y.kind Y.op Y.root Y.sum.length sa sc ha Y.has.length hc ga (Y.got.set i (rgot Y i ++ [m])).length gc ra Y.rnd.length rc ba Y.beg.length bc fa Y.fly.length fc Y.sent) :: sl intE sa sc Y.sum :: sl boE ha hc Y.has :: sl grE ga gc ((hs.set i (a66, c66)).zip (Y.got.set i (rgot Y i ++ [m]))) :: star (List.zipWith gA (hs.set i (a66, c66)) (Y.got.set i (rgot Y i ++ [m]))) :: sl natE ra rc Y.rnd :: sl boE ba bc Y.beg :: slQ rmE fa fc Y.fly :: blk b5 (rmC m) :: L) from SubC.out h s2)) ?_
          have hwZ : WR n Z := by rw [hZ]; exact hwY.got i _
          have hkZ : Z.kind = X.kind := by rw [hZ]; exact hkY
          have hoZ : okOp Z.op := by rw [hZ]; exact hoY
          have hfZ : Z.fly.length = Y.fly.length := by rw [hZ]; rfl
          have hrZ : Z.root = X.root := by rw [hZ]; exact hrY
          have hgZ : (rgot Z i).length ≤ 1000 := by rw [hZ]; show ((Y.got.set i (rgot Y i ++ [m])).getD i []).length ≤ 1000; rw [getD_set [] _ (by rw [hwY.lg]; exact hi), if_pos rfl, List.length_append]; have := hgl i; rw [← hgY] at this; simp; omega
          clear hb hbi hgi hzg
          refine RB_open fun sa sc ha hc ga gc ra rc ba bc fa fc hs hb => ?_
          refine J.imp (M := blk p (rC Z.kind Z.op Z.root Z.sum.length sa sc ha Z.has.length hc ga Z.got.length gc ra Z.rnd.length rc ba Z.beg.length bc fa Z.fly.length fc Z.sent) :: sl intE sa sc Z.sum :: sl boE ha hc Z.has :: sl grE ga gc (hs.zip Z.got) :: star (List.zipWith gA hs Z.got) :: sl natE ra rc Z.rnd :: sl boE ba bc Z.beg :: slQ rmE fa fc Z.fly :: blk b5 (rmC m) :: L) (fun h s => s) ?_
          refine J.region rfl ?_
          refine JO.pur rfl rfl rfl (Pur.move rfl) ?_
          refine JO.pur rfl rfl rfl (Pur.nilCheck rfl) ?_
          refine JO.pur rfl rfl rfl (Pur.fieldAddr rfl) ?_
          refine JO.pur rfl rfl rfl (Pur.load rfl (CellIn.blk rfl)) ?_
          refine JO.pur rfl rfl rfl (Pur.eqlT rfl rfl) ?_
          refine JO.nil ?_
          refine J.splitB 72 rfl (fun h72 => ?_) (fun h72 => ?_)
          · try simp only [bSimp, bSimp2, ne_eq] at h72
            have hsc : X.kind = sScan := by rw [← hkZ]; exact h72
            refine J.condT rfl rfl ?_
            refine J.region rfl ?_
            refine JO.pur rfl rfl rfl (Pur.move rfl) ?_
            refine JO.pur rfl rfl rfl (Pur.fieldAddr rfl) ?_
            refine JO.pur rfl rfl rfl (Pur.load rfl (CellIn.blk rfl)) ?_
            refine JO.setv (u' := .int .i64 (i : Int)) 75 rfl (congrArg (Value.int .i64) (by rw [hie])) ?_
            refine JO.imp (M := RB p Z :: blk b5 (rmC m) :: L) (fun h s => RB_mk (R := Z) (L := (blk b5 (rmC m) :: L)) ⟨sa, sc, ha, hc, ga, gc, ra, rc, ba, bc, fa, fc, hs⟩ hb (show Sat h (blk p (rC Z.kind Z.op Z.root Z.sum.length sa sc ha Z.has.length hc ga Z.got.length gc ra Z.rnd.length rc ba Z.beg.length bc fa Z.fly.length fc Z.sent) :: sl intE sa sc Z.sum :: sl boE ha hc Z.has :: sl grE ga gc (hs.zip Z.got) :: star (List.zipWith gA hs Z.got) :: sl natE ra rc Z.rnd :: sl boE ba bc Z.beg :: slQ rmE fa fc Z.fly :: blk b5 (rmC m) :: L) from SubC.out h s)) ?_
            refine JO.eff rfl rfl rfl (Eff.call rfl (rscan_ok (X := Z) (i := i) hwZ hi hoZ (by omega) hgZ)) ?_
            rintro _ _ ⟨rfl, rfl⟩
            refine JO.nil ?_
            refine J.seq rfl ?_
            refine J.region rfl ?_
            refine JO.pur rfl rfl rfl (Pur.assign rfl) ?_
            refine JO.nil ?_
            refine J.ret rfl rfl ?_
            refine ⟨_, _, ⟨rfl, rfl⟩, rfl, fun h s => ?_⟩
            have hYg : rgot X i = rgot Y i := hgY i ▸ rfl
            first
            | (have e : dlvR X k = scanR 4 Z i := by unfold dlvR; rw [← hme, if_neg hct, if_pos hsc, hZ, hY, hie]; rfl
               rw [e]; exact SubC.out h s)
            | (have e : dlvR X k = combR Z i := by unfold dlvR; rw [← hme, if_neg hct, if_neg hns, hZ, hY, hie]; rfl
               rw [e]; exact SubC.out h s)
          · try simp only [bSimp, bSimp2, ne_eq] at h72
            have hns : ¬ X.kind = sScan := by rw [← hkZ]; exact h72
            obtain ⟨hr0, hr1⟩ := hrt hns
            refine J.condF rfl rfl ?_
            refine J.region rfl ?_
            refine JO.pur rfl rfl rfl (Pur.move rfl) ?_
            refine JO.pur rfl rfl rfl (Pur.fieldAddr rfl) ?_
            refine JO.pur rfl rfl rfl (Pur.load rfl (CellIn.blk rfl)) ?_
            refine JO.setv (u' := .int .i64 (i : Int)) 79 rfl (congrArg (Value.int .i64) (by rw [hie])) ?_
            refine JO.imp (M := RB p Z :: blk b5 (rmC m) :: L) (fun h s => RB_mk (R := Z) (L := (blk b5 (rmC m) :: L)) ⟨sa, sc, ha, hc, ga, gc, ra, rc, ba, bc, fa, fc, hs⟩ hb (show Sat h (blk p (rC Z.kind Z.op Z.root Z.sum.length sa sc ha Z.has.length hc ga Z.got.length gc ra Z.rnd.length rc ba Z.beg.length bc fa Z.fly.length fc Z.sent) :: sl intE sa sc Z.sum :: sl boE ha hc Z.has :: sl grE ga gc (hs.zip Z.got) :: star (List.zipWith gA hs Z.got) :: sl natE ra rc Z.rnd :: sl boE ba bc Z.beg :: slQ rmE fa fc Z.fly :: blk b5 (rmC m) :: L) from SubC.out h s)) ?_
            refine JO.eff rfl rfl rfl (Eff.call rfl (rcomb_ok (X := Z) (i := i) hwZ (by rw [hrZ]; exact hr0) (by rw [hrZ]; exact hr1) hi hoZ (by omega) hgZ)) ?_
            rintro _ _ ⟨rfl, rfl⟩
            refine JO.nil ?_
            refine J.seq rfl ?_
            refine J.region rfl ?_
            refine JO.pur rfl rfl rfl (Pur.assign rfl) ?_
            refine JO.nil ?_
            refine J.ret rfl rfl ?_
            refine ⟨_, _, ⟨rfl, rfl⟩, rfl, fun h s => ?_⟩
            have hYg : rgot X i = rgot Y i := hgY i ▸ rfl
            first
            | (have e : dlvR X k = scanR 4 Z i := by unfold dlvR; rw [← hme, if_neg hct, if_pos hsc, hZ, hY, hie]; rfl
               rw [e]; exact SubC.out h s)
            | (have e : dlvR X k = combR Z i := by unfold dlvR; rw [← hme, if_neg hct, if_neg hns, hZ, hY, hie]; rfl
               rw [e]; exact SubC.out h s)
        · skip
          refine JMi.eff rfl rfl rfl rfl (m' := 131063) rfl (Eff.append rfl rfl rfl rfl (by first | rfl | omega | (simp; done) | (simp; omega)) (by first | rfl | omega | (simp; done) | (simp; omega)) (by decide) (by simp; omega) (by simp; omega) (fun h => by cases h)) ?_
          rintro _ _ ⟨a66, c66, rfl, rfl⟩
          refine ⟨.inl (by simp), ?_⟩
          refine JM.setv (u' := .slice a66 (rgot Y i ++ [m]).length c66) 66 rfl (by rw [List.length_append]) ?_
          refine JM.one (i := 3) (by kernel_rfl) ?_
          refine JMi.eff rfl rfl rfl rfl (m' := 131071) rfl (Pur.eff (Pur.load rfl (CellIn.blk rfl))) ?_
          rintro _ _ ⟨rfl, rfl⟩
          refine ⟨.inl (.inr (by kernel_rfl)), ?_⟩
          refine JM.one (i := 17) (by kernel_rfl) ?_
          refine JMi.eff rfl rfl rfl rfl (m' := 262143) rfl (Pur.eff (Pur.idx rfl rfl rfl (by first | rfl | (simp; done) | omega | (rw [List.length_zip]; omega) | (rw [List.length_set]; omega)) rfl (by rw [List.length_zip]; omega))) ?_
          rintro _ _ ⟨rfl, rfl⟩
          refine ⟨.inl (.inr (by kernel_rfl)), ?_⟩
          refine JM.one (i := 18) (by kernel_rfl) ?_
          refine JMi.effN rfl rfl rfl (m' := 524287) rfl (Eff.storeS0 (z' := ((a66, c66), rgot Y i ++ [m])) rfl rfl rfl rfl hzg .head) ?_
          rintro _ _ ⟨rfl, rfl⟩
          refine ⟨.inl (by simp), ?_⟩
          refine JM.done rfl ?_
          refine J.seq rfl ?_
          refine J.seq rfl ?_
          obtain ⟨Z, hZ⟩ : ∃ Z, Z = setGot Y i (rgot Y i ++ [m]) := ⟨_, rfl⟩
          refine J.imp (M := RB p Z :: blk b5 (rmC m) :: L) (fun h s => by have s1 : Sat h (gA (a66, c66) (rgot Y i ++ [m]) :: zwBut gA i hs Y.got :: blk p (rC Y.kind Y.op Y.root Y.sum.length sa sc ha Y.has.length hc ga (Y.got.set i (rgot Y i ++ [m])).length gc ra Y.rnd.length rc ba Y.beg.length bc fa Y.fly.length fc Y.sent) :: sl intE sa sc Y.sum :: sl boE ha hc Y.has :: sl grE ga gc ((hs.zip Y.got).set i ((a66, c66), rgot Y i ++ [m])) :: sl natE ra rc Y.rnd :: sl boE ba bc Y.beg :: slQ rmE fa fc Y.fly :: blk b5 (rmC m) :: L) := (by have e1 : Y.got.length = (Y.got.set i (rgot Y i ++ [m])).length := (by simp); rw [← e1]; exact SubC.out h s); have s2 := zw_put (A := gA) (r' := (a66, c66)) (c' := rgot Y i ++ [m]) hbi hgi s1; rw [zipr_set hb] at s2; rw [hZ]; exact RB_mk (R := setGot Y i (rgot Y i ++ [m])) (L := blk b5 (rmC m) :: L) ⟨sa, sc, ha, hc, ga, gc, ra, rc, ba, bc, fa, fc, (hs.set i (a66, c66))⟩ (by show (hs.set i (a66, c66)).length = (Y.got.set i (rgot Y i ++ [m])).length; rw [List.length_set, List.length_set]; exact hb) (show Sat h (blk p (rC Y.kind Y.op Y.root Y.sum.length sa sc ha Y.has.length hc ga (Y.got.set i (rgot Y i ++ [m])).length gc ra Y.rnd.length rc ba Y.beg.length bc fa Y.fly.length fc Y.sent) :: sl intE sa sc Y.sum :: sl boE ha hc Y.has :: sl grE ga gc ((hs.set i (a66, c66)).zip (Y.got.set i (rgot Y i ++ [m]))) :: star (List.zipWith gA (hs.set i (a66, c66)) (Y.got.set i (rgot Y i ++ [m]))) :: sl natE ra rc Y.rnd :: sl boE ba bc Y.beg :: slQ rmE fa fc Y.fly :: blk b5 (rmC m) :: L) from SubC.out h s2)) ?_
          have hwZ : WR n Z := by rw [hZ]; exact hwY.got i _
          have hkZ : Z.kind = X.kind := by rw [hZ]; exact hkY
          have hoZ : okOp Z.op := by rw [hZ]; exact hoY
          have hfZ : Z.fly.length = Y.fly.length := by rw [hZ]; rfl
          have hrZ : Z.root = X.root := by rw [hZ]; exact hrY
          have hgZ : (rgot Z i).length ≤ 1000 := by rw [hZ]; show ((Y.got.set i (rgot Y i ++ [m])).getD i []).length ≤ 1000; rw [getD_set [] _ (by rw [hwY.lg]; exact hi), if_pos rfl, List.length_append]; have := hgl i; rw [← hgY] at this; simp; omega
          clear hb hbi hgi hzg
          refine RB_open fun sa sc ha hc ga gc ra rc ba bc fa fc hs hb => ?_
          refine J.imp (M := blk p (rC Z.kind Z.op Z.root Z.sum.length sa sc ha Z.has.length hc ga Z.got.length gc ra Z.rnd.length rc ba Z.beg.length bc fa Z.fly.length fc Z.sent) :: sl intE sa sc Z.sum :: sl boE ha hc Z.has :: sl grE ga gc (hs.zip Z.got) :: star (List.zipWith gA hs Z.got) :: sl natE ra rc Z.rnd :: sl boE ba bc Z.beg :: slQ rmE fa fc Z.fly :: blk b5 (rmC m) :: L) (fun h s => s) ?_
          refine J.region rfl ?_
          refine JO.pur rfl rfl rfl (Pur.move rfl) ?_
          refine JO.pur rfl rfl rfl (Pur.nilCheck rfl) ?_
          refine JO.pur rfl rfl rfl (Pur.fieldAddr rfl) ?_
          refine JO.pur rfl rfl rfl (Pur.load rfl (CellIn.blk rfl)) ?_
          refine JO.pur rfl rfl rfl (Pur.eqlT rfl rfl) ?_
          refine JO.nil ?_
          refine J.splitB 72 rfl (fun h72 => ?_) (fun h72 => ?_)
          · try simp only [bSimp, bSimp2, ne_eq] at h72
            have hsc : X.kind = sScan := by rw [← hkZ]; exact h72
            refine J.condT rfl rfl ?_
            refine J.region rfl ?_
            refine JO.pur rfl rfl rfl (Pur.move rfl) ?_
            refine JO.pur rfl rfl rfl (Pur.fieldAddr rfl) ?_
            refine JO.pur rfl rfl rfl (Pur.load rfl (CellIn.blk rfl)) ?_
            refine JO.setv (u' := .int .i64 (i : Int)) 75 rfl (congrArg (Value.int .i64) (by rw [hie])) ?_
            refine JO.imp (M := RB p Z :: blk b5 (rmC m) :: L) (fun h s => RB_mk (R := Z) (L := (blk b5 (rmC m) :: L)) ⟨sa, sc, ha, hc, ga, gc, ra, rc, ba, bc, fa, fc, hs⟩ hb (show Sat h (blk p (rC Z.kind Z.op Z.root Z.sum.length sa sc ha Z.has.length hc ga Z.got.length gc ra Z.rnd.length rc ba Z.beg.length bc fa Z.fly.length fc Z.sent) :: sl intE sa sc Z.sum :: sl boE ha hc Z.has :: sl grE ga gc (hs.zip Z.got) :: star (List.zipWith gA hs Z.got) :: sl natE ra rc Z.rnd :: sl boE ba bc Z.beg :: slQ rmE fa fc Z.fly :: blk b5 (rmC m) :: L) from SubC.out h s)) ?_
            refine JO.eff rfl rfl rfl (Eff.call rfl (rscan_ok (X := Z) (i := i) hwZ hi hoZ (by omega) hgZ)) ?_
            rintro _ _ ⟨rfl, rfl⟩
            refine JO.nil ?_
            refine J.seq rfl ?_
            refine J.region rfl ?_
            refine JO.pur rfl rfl rfl (Pur.assign rfl) ?_
            refine JO.nil ?_
            refine J.ret rfl rfl ?_
            refine ⟨_, _, ⟨rfl, rfl⟩, rfl, fun h s => ?_⟩
            have hYg : rgot X i = rgot Y i := hgY i ▸ rfl
            first
            | (have e : dlvR X k = scanR 4 Z i := by unfold dlvR; rw [← hme, if_neg hct, if_pos hsc, hZ, hY, hie]; rfl
               rw [e]; exact SubC.out h s)
            | (have e : dlvR X k = combR Z i := by unfold dlvR; rw [← hme, if_neg hct, if_neg hns, hZ, hY, hie]; rfl
               rw [e]; exact SubC.out h s)
          · try simp only [bSimp, bSimp2, ne_eq] at h72
            have hns : ¬ X.kind = sScan := by rw [← hkZ]; exact h72
            obtain ⟨hr0, hr1⟩ := hrt hns
            refine J.condF rfl rfl ?_
            refine J.region rfl ?_
            refine JO.pur rfl rfl rfl (Pur.move rfl) ?_
            refine JO.pur rfl rfl rfl (Pur.fieldAddr rfl) ?_
            refine JO.pur rfl rfl rfl (Pur.load rfl (CellIn.blk rfl)) ?_
            refine JO.setv (u' := .int .i64 (i : Int)) 79 rfl (congrArg (Value.int .i64) (by rw [hie])) ?_
            refine JO.imp (M := RB p Z :: blk b5 (rmC m) :: L) (fun h s => RB_mk (R := Z) (L := (blk b5 (rmC m) :: L)) ⟨sa, sc, ha, hc, ga, gc, ra, rc, ba, bc, fa, fc, hs⟩ hb (show Sat h (blk p (rC Z.kind Z.op Z.root Z.sum.length sa sc ha Z.has.length hc ga Z.got.length gc ra Z.rnd.length rc ba Z.beg.length bc fa Z.fly.length fc Z.sent) :: sl intE sa sc Z.sum :: sl boE ha hc Z.has :: sl grE ga gc (hs.zip Z.got) :: star (List.zipWith gA hs Z.got) :: sl natE ra rc Z.rnd :: sl boE ba bc Z.beg :: slQ rmE fa fc Z.fly :: blk b5 (rmC m) :: L) from SubC.out h s)) ?_
            refine JO.eff rfl rfl rfl (Eff.call rfl (rcomb_ok (X := Z) (i := i) hwZ (by rw [hrZ]; exact hr0) (by rw [hrZ]; exact hr1) hi hoZ (by omega) hgZ)) ?_
            rintro _ _ ⟨rfl, rfl⟩
            refine JO.nil ?_
            refine J.seq rfl ?_
            refine J.region rfl ?_
            refine JO.pur rfl rfl rfl (Pur.assign rfl) ?_
            refine JO.nil ?_
            refine J.ret rfl rfl ?_
            refine ⟨_, _, ⟨rfl, rfl⟩, rfl, fun h s => ?_⟩
            have hYg : rgot X i = rgot Y i := hgY i ▸ rfl
            first
            | (have e : dlvR X k = scanR 4 Z i := by unfold dlvR; rw [← hme, if_neg hct, if_pos hsc, hZ, hY, hie]; rfl
               rw [e]; exact SubC.out h s)
            | (have e : dlvR X k = combR Z i := by unfold dlvR; rw [← hme, if_neg hct, if_neg hns, hZ, hY, hie]; rfl
               rw [e]; exact SubC.out h s)
      · skip
        refine JMi.eff rfl rfl rfl rfl (m' := 131031) rfl (Eff.append rfl rfl rfl rfl (by first | rfl | omega | (simp; done) | (simp; omega)) (by first | rfl | omega | (simp; done) | (simp; omega)) (by decide) (by simp; omega) (by simp; omega) (fun h => by cases h)) ?_
        rintro _ _ ⟨a66, c66, rfl, rfl⟩
        refine ⟨.inl (by simp), ?_⟩
        refine JM.setv (u' := .slice a66 (rgot Y i ++ [m]).length c66) 66 rfl (by rw [List.length_append]) ?_
        refine JM.many (rs := [3, 5]) (by kernel_rfl) rfl (fun i hi => ?_)
        simp only [List.mem_cons, List.not_mem_nil, or_false] at hi
        rcases hi with rfl | rfl
        · skip
          refine JMi.eff rfl rfl rfl rfl (m' := 131039) rfl (Pur.eff (Pur.load rfl (CellIn.blk rfl))) ?_
          rintro _ _ ⟨rfl, rfl⟩
          refine ⟨.inl (.inr (by kernel_rfl)), ?_⟩
          refine JM.one (i := 5) (by kernel_rfl) ?_
          refine JMi.eff rfl rfl rfl rfl (m' := 131071) rfl (Pur.eff (Pur.load rfl (CellIn.blk rfl))) ?_
          rintro _ _ ⟨rfl, rfl⟩
          refine ⟨.inl (.inr (by kernel_rfl)), ?_⟩
          refine JM.setv (u' := .int .i64 (i : Int)) 55 rfl (congrArg (Value.int .i64) (by rw [hie])) ?_
          refine JM.one (i := 17) (by kernel_rfl) ?_
          refine JMi.eff rfl rfl rfl rfl (m' := 262143) rfl (Pur.eff (Pur.idx rfl rfl rfl (by first | rfl | (simp; done) | omega | (rw [List.length_zip]; omega) | (rw [List.length_set]; omega)) rfl (by rw [List.length_zip]; omega))) ?_
          rintro _ _ ⟨rfl, rfl⟩
          refine ⟨.inl (.inr (by kernel_rfl)), ?_⟩
          refine JM.one (i := 18) (by kernel_rfl) ?_
          refine JMi.effN rfl rfl rfl (m' := 524287) rfl (Eff.storeS0 (z' := ((a66, c66), rgot Y i ++ [m])) rfl rfl rfl rfl hzg .head) ?_
          rintro _ _ ⟨rfl, rfl⟩
          refine ⟨.inl (by simp), ?_⟩
          refine JM.done rfl ?_
          refine J.seq rfl ?_
          refine J.seq rfl ?_
          obtain ⟨Z, hZ⟩ : ∃ Z, Z = setGot Y i (rgot Y i ++ [m]) := ⟨_, rfl⟩
          refine J.imp (M := RB p Z :: blk b5 (rmC m) :: L) (fun h s => by have s1 : Sat h (gA (a66, c66) (rgot Y i ++ [m]) :: zwBut gA i hs Y.got :: blk p (rC Y.kind Y.op Y.root Y.sum.length sa sc ha Y.has.length hc ga (Y.got.set i (rgot Y i ++ [m])).length gc ra Y.rnd.length rc ba Y.beg.length bc fa Y.fly.length fc Y.sent) :: sl intE sa sc Y.sum :: sl boE ha hc Y.has :: sl grE ga gc ((hs.zip Y.got).set i ((a66, c66), rgot Y i ++ [m])) :: sl natE ra rc Y.rnd :: sl boE ba bc Y.beg :: slQ rmE fa fc Y.fly :: blk b5 (rmC m) :: L) := (by have e1 : Y.got.length = (Y.got.set i (rgot Y i ++ [m])).length := (by simp); rw [← e1]; exact SubC.out h s); have s2 := zw_put (A := gA) (r' := (a66, c66)) (c' := rgot Y i ++ [m]) hbi hgi s1; rw [zipr_set hb] at s2; rw [hZ]; exact RB_mk (R := setGot Y i (rgot Y i ++ [m])) (L := blk b5 (rmC m) :: L) ⟨sa, sc, ha, hc, ga, gc, ra, rc, ba, bc, fa, fc, (hs.set i (a66, c66))⟩ (by show (hs.set i (a66, c66)).length = (Y.got.set i (rgot Y i ++ [m])).length; rw [List.length_set, List.length_set]; exact hb) (show Sat h (blk p (rC Y.kind Y.op Y.root Y.sum.length sa sc ha Y.has.length hc ga (Y.got.set i (rgot Y i ++ [m])).length gc ra Y.rnd.length rc ba Y.beg.length bc fa Y.fly.length fc Y.sent) :: sl intE sa sc Y.sum :: sl boE ha hc Y.has :: sl grE ga gc ((hs.set i (a66, c66)).zip (Y.got.set i (rgot Y i ++ [m]))) :: star (List.zipWith gA (hs.set i (a66, c66)) (Y.got.set i (rgot Y i ++ [m]))) :: sl natE ra rc Y.rnd :: sl boE ba bc Y.beg :: slQ rmE fa fc Y.fly :: blk b5 (rmC m) :: L) from SubC.out h s2)) ?_
          have hwZ : WR n Z := by rw [hZ]; exact hwY.got i _
          have hkZ : Z.kind = X.kind := by rw [hZ]; exact hkY
          have hoZ : okOp Z.op := by rw [hZ]; exact hoY
          have hfZ : Z.fly.length = Y.fly.length := by rw [hZ]; rfl
          have hrZ : Z.root = X.root := by rw [hZ]; exact hrY
          have hgZ : (rgot Z i).length ≤ 1000 := by rw [hZ]; show ((Y.got.set i (rgot Y i ++ [m])).getD i []).length ≤ 1000; rw [getD_set [] _ (by rw [hwY.lg]; exact hi), if_pos rfl, List.length_append]; have := hgl i; rw [← hgY] at this; simp; omega
          clear hb hbi hgi hzg
          refine RB_open fun sa sc ha hc ga gc ra rc ba bc fa fc hs hb => ?_
          refine J.imp (M := blk p (rC Z.kind Z.op Z.root Z.sum.length sa sc ha Z.has.length hc ga Z.got.length gc ra Z.rnd.length rc ba Z.beg.length bc fa Z.fly.length fc Z.sent) :: sl intE sa sc Z.sum :: sl boE ha hc Z.has :: sl grE ga gc (hs.zip Z.got) :: star (List.zipWith gA hs Z.got) :: sl natE ra rc Z.rnd :: sl boE ba bc Z.beg :: slQ rmE fa fc Z.fly :: blk b5 (rmC m) :: L) (fun h s => s) ?_
          refine J.region rfl ?_
          refine JO.pur rfl rfl rfl (Pur.move rfl) ?_
          refine JO.pur rfl rfl rfl (Pur.nilCheck rfl) ?_
          refine JO.pur rfl rfl rfl (Pur.fieldAddr rfl) ?_
          refine JO.pur rfl rfl rfl (Pur.load rfl (CellIn.blk rfl)) ?_
          refine JO.pur rfl rfl rfl (Pur.eqlT rfl rfl) ?_
          refine JO.nil ?_
          refine J.splitB 72 rfl (fun h72 => ?_) (fun h72 => ?_)
          · try simp only [bSimp, bSimp2, ne_eq] at h72
            have hsc : X.kind = sScan := by rw [← hkZ]; exact h72
            refine J.condT rfl rfl ?_
            refine J.region rfl ?_
            refine JO.pur rfl rfl rfl (Pur.move rfl) ?_
            refine JO.pur rfl rfl rfl (Pur.fieldAddr rfl) ?_
            refine JO.pur rfl rfl rfl (Pur.load rfl (CellIn.blk rfl)) ?_
            refine JO.setv (u' := .int .i64 (i : Int)) 75 rfl (congrArg (Value.int .i64) (by rw [hie])) ?_
            refine JO.imp (M := RB p Z :: blk b5 (rmC m) :: L) (fun h s => RB_mk (R := Z) (L := (blk b5 (rmC m) :: L)) ⟨sa, sc, ha, hc, ga, gc, ra, rc, ba, bc, fa, fc, hs⟩ hb (show Sat h (blk p (rC Z.kind Z.op Z.root Z.sum.length sa sc ha Z.has.length hc ga Z.got.length gc ra Z.rnd.length rc ba Z.beg.length bc fa Z.fly.length fc Z.sent) :: sl intE sa sc Z.sum :: sl boE ha hc Z.has :: sl grE ga gc (hs.zip Z.got) :: star (List.zipWith gA hs Z.got) :: sl natE ra rc Z.rnd :: sl boE ba bc Z.beg :: slQ rmE fa fc Z.fly :: blk b5 (rmC m) :: L) from SubC.out h s)) ?_
            refine JO.eff rfl rfl rfl (Eff.call rfl (rscan_ok (X := Z) (i := i) hwZ hi hoZ (by omega) hgZ)) ?_
            rintro _ _ ⟨rfl, rfl⟩
            refine JO.nil ?_
            refine J.seq rfl ?_
            refine J.region rfl ?_
            refine JO.pur rfl rfl rfl (Pur.assign rfl) ?_
            refine JO.nil ?_
            refine J.ret rfl rfl ?_
            refine ⟨_, _, ⟨rfl, rfl⟩, rfl, fun h s => ?_⟩
            have hYg : rgot X i = rgot Y i := hgY i ▸ rfl
            first
            | (have e : dlvR X k = scanR 4 Z i := by unfold dlvR; rw [← hme, if_neg hct, if_pos hsc, hZ, hY, hie]; rfl
               rw [e]; exact SubC.out h s)
            | (have e : dlvR X k = combR Z i := by unfold dlvR; rw [← hme, if_neg hct, if_neg hns, hZ, hY, hie]; rfl
               rw [e]; exact SubC.out h s)
          · try simp only [bSimp, bSimp2, ne_eq] at h72
            have hns : ¬ X.kind = sScan := by rw [← hkZ]; exact h72
            obtain ⟨hr0, hr1⟩ := hrt hns
            refine J.condF rfl rfl ?_
            refine J.region rfl ?_
            refine JO.pur rfl rfl rfl (Pur.move rfl) ?_
            refine JO.pur rfl rfl rfl (Pur.fieldAddr rfl) ?_
            refine JO.pur rfl rfl rfl (Pur.load rfl (CellIn.blk rfl)) ?_
            refine JO.setv (u' := .int .i64 (i : Int)) 79 rfl (congrArg (Value.int .i64) (by rw [hie])) ?_
            refine JO.imp (M := RB p Z :: blk b5 (rmC m) :: L) (fun h s => RB_mk (R := Z) (L := (blk b5 (rmC m) :: L)) ⟨sa, sc, ha, hc, ga, gc, ra, rc, ba, bc, fa, fc, hs⟩ hb (show Sat h (blk p (rC Z.kind Z.op Z.root Z.sum.length sa sc ha Z.has.length hc ga Z.got.length gc ra Z.rnd.length rc ba Z.beg.length bc fa Z.fly.length fc Z.sent) :: sl intE sa sc Z.sum :: sl boE ha hc Z.has :: sl grE ga gc (hs.zip Z.got) :: star (List.zipWith gA hs Z.got) :: sl natE ra rc Z.rnd :: sl boE ba bc Z.beg :: slQ rmE fa fc Z.fly :: blk b5 (rmC m) :: L) from SubC.out h s)) ?_
            refine JO.eff rfl rfl rfl (Eff.call rfl (rcomb_ok (X := Z) (i := i) hwZ (by rw [hrZ]; exact hr0) (by rw [hrZ]; exact hr1) hi hoZ (by omega) hgZ)) ?_
            rintro _ _ ⟨rfl, rfl⟩
            refine JO.nil ?_
            refine J.seq rfl ?_
            refine J.region rfl ?_
            refine JO.pur rfl rfl rfl (Pur.assign rfl) ?_
            refine JO.nil ?_
            refine J.ret rfl rfl ?_
            refine ⟨_, _, ⟨rfl, rfl⟩, rfl, fun h s => ?_⟩
            have hYg : rgot X i = rgot Y i := hgY i ▸ rfl
            first
            | (have e : dlvR X k = scanR 4 Z i := by unfold dlvR; rw [← hme, if_neg hct, if_pos hsc, hZ, hY, hie]; rfl
               rw [e]; exact SubC.out h s)
            | (have e : dlvR X k = combR Z i := by unfold dlvR; rw [← hme, if_neg hct, if_neg hns, hZ, hY, hie]; rfl
               rw [e]; exact SubC.out h s)
        · skip
          refine JMi.eff rfl rfl rfl rfl (m' := 131063) rfl (Pur.eff (Pur.load rfl (CellIn.blk rfl))) ?_
          rintro _ _ ⟨rfl, rfl⟩
          refine ⟨.inl (.inr (by kernel_rfl)), ?_⟩
          refine JM.setv (u' := .int .i64 (i : Int)) 55 rfl (congrArg (Value.int .i64) (by rw [hie])) ?_
          refine JM.one (i := 3) (by kernel_rfl) ?_
          refine JMi.eff rfl rfl rfl rfl (m' := 131071) rfl (Pur.eff (Pur.load rfl (CellIn.blk rfl))) ?_
          rintro _ _ ⟨rfl, rfl⟩
          refine ⟨.inl (.inr (by kernel_rfl)), ?_⟩
          refine JM.one (i := 17) (by kernel_rfl) ?_
          refine JMi.eff rfl rfl rfl rfl (m' := 262143) rfl (Pur.eff (Pur.idx rfl rfl rfl (by first | rfl | (simp; done) | omega | (rw [List.length_zip]; omega) | (rw [List.length_set]; omega)) rfl (by rw [List.length_zip]; omega))) ?_
          rintro _ _ ⟨rfl, rfl⟩
          refine ⟨.inl (.inr (by kernel_rfl)), ?_⟩
          refine JM.one (i := 18) (by kernel_rfl) ?_
          refine JMi.effN rfl rfl rfl (m' := 524287) rfl (Eff.storeS0 (z' := ((a66, c66), rgot Y i ++ [m])) rfl rfl rfl rfl hzg .head) ?_
          rintro _ _ ⟨rfl, rfl⟩
          refine ⟨.inl (by simp), ?_⟩
          refine JM.done rfl ?_
          refine J.seq rfl ?_
          refine J.seq rfl ?_
          obtain ⟨Z, hZ⟩ : ∃ Z, Z = setGot Y i (rgot Y i ++ [m]) := ⟨_, rfl⟩
          refine J.imp (M := RB p Z :: blk b5 (rmC m) :: L) (fun h s => by have s1 : Sat h (gA (a66, c66) (rgot Y i ++ [m]) :: zwBut gA i hs Y.got :: blk p (rC Y.kind Y.op Y.root Y.sum.length sa sc ha Y.has.length hc ga (Y.got.set i (rgot Y i ++ [m])).length gc ra Y.rnd.length rc ba Y.beg.length bc fa Y.fly.length fc Y.sent) :: sl intE sa sc Y.sum :: sl boE ha hc Y.has :: sl grE ga gc ((hs.zip Y.got).set i ((a66, c66), rgot Y i ++ [m])) :: sl natE ra rc Y.rnd :: sl boE ba bc Y.beg :: slQ rmE fa fc Y.fly :: blk b5 (rmC m) :: L) := (by have e1 : Y.got.length = (Y.got.set i (rgot Y i ++ [m])).length := (by simp); rw [← e1]; exact SubC.out h s); have s2 := zw_put (A := gA) (r' := (a66, c66)) (c' := rgot Y i ++ [m]) hbi hgi s1; rw [zipr_set hb] at s2; rw [hZ]; exact RB_mk (R := setGot Y i (rgot Y i ++ [m])) (L := blk b5 (rmC m) :: L) ⟨sa, sc, ha, hc, ga, gc, ra, rc, ba, bc, fa, fc, (hs.set i (a66, c66))⟩ (by show (hs.set i (a66, c66)).length = (Y.got.set i (rgot Y i ++ [m])).length; rw [List.length_set, List.length_set]; exact hb) (show Sat h (blk p (rC Y.kind Y.op Y.root Y.sum.length sa sc ha Y.has.length hc ga (Y.got.set i (rgot Y i ++ [m])).length gc ra Y.rnd.length rc ba Y.beg.length bc fa Y.fly.length fc Y.sent) :: sl intE sa sc Y.sum :: sl boE ha hc Y.has :: sl grE ga gc ((hs.set i (a66, c66)).zip (Y.got.set i (rgot Y i ++ [m]))) :: star (List.zipWith gA (hs.set i (a66, c66)) (Y.got.set i (rgot Y i ++ [m]))) :: sl natE ra rc Y.rnd :: sl boE ba bc Y.beg :: slQ rmE fa fc Y.fly :: blk b5 (rmC m) :: L) from SubC.out h s2)) ?_
          have hwZ : WR n Z := by rw [hZ]; exact hwY.got i _
          have hkZ : Z.kind = X.kind := by rw [hZ]; exact hkY
          have hoZ : okOp Z.op := by rw [hZ]; exact hoY
          have hfZ : Z.fly.length = Y.fly.length := by rw [hZ]; rfl
          have hrZ : Z.root = X.root := by rw [hZ]; exact hrY
          have hgZ : (rgot Z i).length ≤ 1000 := by rw [hZ]; show ((Y.got.set i (rgot Y i ++ [m])).getD i []).length ≤ 1000; rw [getD_set [] _ (by rw [hwY.lg]; exact hi), if_pos rfl, List.length_append]; have := hgl i; rw [← hgY] at this; simp; omega
          clear hb hbi hgi hzg
          refine RB_open fun sa sc ha hc ga gc ra rc ba bc fa fc hs hb => ?_
          refine J.imp (M := blk p (rC Z.kind Z.op Z.root Z.sum.length sa sc ha Z.has.length hc ga Z.got.length gc ra Z.rnd.length rc ba Z.beg.length bc fa Z.fly.length fc Z.sent) :: sl intE sa sc Z.sum :: sl boE ha hc Z.has :: sl grE ga gc (hs.zip Z.got) :: star (List.zipWith gA hs Z.got) :: sl natE ra rc Z.rnd :: sl boE ba bc Z.beg :: slQ rmE fa fc Z.fly :: blk b5 (rmC m) :: L) (fun h s => s) ?_
          refine J.region rfl ?_
          refine JO.pur rfl rfl rfl (Pur.move rfl) ?_
          refine JO.pur rfl rfl rfl (Pur.nilCheck rfl) ?_
          refine JO.pur rfl rfl rfl (Pur.fieldAddr rfl) ?_
          refine JO.pur rfl rfl rfl (Pur.load rfl (CellIn.blk rfl)) ?_
          refine JO.pur rfl rfl rfl (Pur.eqlT rfl rfl) ?_
          refine JO.nil ?_
          refine J.splitB 72 rfl (fun h72 => ?_) (fun h72 => ?_)
          · try simp only [bSimp, bSimp2, ne_eq] at h72
            have hsc : X.kind = sScan := by rw [← hkZ]; exact h72
            refine J.condT rfl rfl ?_
            refine J.region rfl ?_
            refine JO.pur rfl rfl rfl (Pur.move rfl) ?_
            refine JO.pur rfl rfl rfl (Pur.fieldAddr rfl) ?_
            refine JO.pur rfl rfl rfl (Pur.load rfl (CellIn.blk rfl)) ?_
            refine JO.setv (u' := .int .i64 (i : Int)) 75 rfl (congrArg (Value.int .i64) (by rw [hie])) ?_
            refine JO.imp (M := RB p Z :: blk b5 (rmC m) :: L) (fun h s => RB_mk (R := Z) (L := (blk b5 (rmC m) :: L)) ⟨sa, sc, ha, hc, ga, gc, ra, rc, ba, bc, fa, fc, hs⟩ hb (show Sat h (blk p (rC Z.kind Z.op Z.root Z.sum.length sa sc ha Z.has.length hc ga Z.got.length gc ra Z.rnd.length rc ba Z.beg.length bc fa Z.fly.length fc Z.sent) :: sl intE sa sc Z.sum :: sl boE ha hc Z.has :: sl grE ga gc (hs.zip Z.got) :: star (List.zipWith gA hs Z.got) :: sl natE ra rc Z.rnd :: sl boE ba bc Z.beg :: slQ rmE fa fc Z.fly :: blk b5 (rmC m) :: L) from SubC.out h s)) ?_
            refine JO.eff rfl rfl rfl (Eff.call rfl (rscan_ok (X := Z) (i := i) hwZ hi hoZ (by omega) hgZ)) ?_
            rintro _ _ ⟨rfl, rfl⟩
            refine JO.nil ?_
            refine J.seq rfl ?_
            refine J.region rfl ?_
            refine JO.pur rfl rfl rfl (Pur.assign rfl) ?_
            refine JO.nil ?_
            refine J.ret rfl rfl ?_
            refine ⟨_, _, ⟨rfl, rfl⟩, rfl, fun h s => ?_⟩
            have hYg : rgot X i = rgot Y i := hgY i ▸ rfl
            first
            | (have e : dlvR X k = scanR 4 Z i := by unfold dlvR; rw [← hme, if_neg hct, if_pos hsc, hZ, hY, hie]; rfl
               rw [e]; exact SubC.out h s)
            | (have e : dlvR X k = combR Z i := by unfold dlvR; rw [← hme, if_neg hct, if_neg hns, hZ, hY, hie]; rfl
               rw [e]; exact SubC.out h s)
          · try simp only [bSimp, bSimp2, ne_eq] at h72
            have hns : ¬ X.kind = sScan := by rw [← hkZ]; exact h72
            obtain ⟨hr0, hr1⟩ := hrt hns
            refine J.condF rfl rfl ?_
            refine J.region rfl ?_
            refine JO.pur rfl rfl rfl (Pur.move rfl) ?_
            refine JO.pur rfl rfl rfl (Pur.fieldAddr rfl) ?_
            refine JO.pur rfl rfl rfl (Pur.load rfl (CellIn.blk rfl)) ?_
            refine JO.setv (u' := .int .i64 (i : Int)) 79 rfl (congrArg (Value.int .i64) (by rw [hie])) ?_
            refine JO.imp (M := RB p Z :: blk b5 (rmC m) :: L) (fun h s => RB_mk (R := Z) (L := (blk b5 (rmC m) :: L)) ⟨sa, sc, ha, hc, ga, gc, ra, rc, ba, bc, fa, fc, hs⟩ hb (show Sat h (blk p (rC Z.kind Z.op Z.root Z.sum.length sa sc ha Z.has.length hc ga Z.got.length gc ra Z.rnd.length rc ba Z.beg.length bc fa Z.fly.length fc Z.sent) :: sl intE sa sc Z.sum :: sl boE ha hc Z.has :: sl grE ga gc (hs.zip Z.got) :: star (List.zipWith gA hs Z.got) :: sl natE ra rc Z.rnd :: sl boE ba bc Z.beg :: slQ rmE fa fc Z.fly :: blk b5 (rmC m) :: L) from SubC.out h s)) ?_
            refine JO.eff rfl rfl rfl (Eff.call rfl (rcomb_ok (X := Z) (i := i) hwZ (by rw [hrZ]; exact hr0) (by rw [hrZ]; exact hr1) hi hoZ (by omega) hgZ)) ?_
            rintro _ _ ⟨rfl, rfl⟩
            refine JO.nil ?_
            refine J.seq rfl ?_
            refine J.region rfl ?_
            refine JO.pur rfl rfl rfl (Pur.assign rfl) ?_
            refine JO.nil ?_
            refine J.ret rfl rfl ?_
            refine ⟨_, _, ⟨rfl, rfl⟩, rfl, fun h s => ?_⟩
            have hYg : rgot X i = rgot Y i := hgY i ▸ rfl
            first
            | (have e : dlvR X k = scanR 4 Z i := by unfold dlvR; rw [← hme, if_neg hct, if_pos hsc, hZ, hY, hie]; rfl
               rw [e]; exact SubC.out h s)
            | (have e : dlvR X k = combR Z i := by unfold dlvR; rw [← hme, if_neg hct, if_neg hns, hZ, hY, hie]; rfl
               rw [e]; exact SubC.out h s)

theorem rdeliver_bad {L : List Asn} {p n : Nat} {X : Rs} (hw : WR n X) {k : Int} (hk : k < 0 ∨ (X.fly.length : Int) ≤ k) :
    CallS Try.prog 15 [.pointer (some ⟨p, 0, none⟩), .int .i64 k].toArray (RB p X :: L) (fun v M => v = .int .i64 2 ∧ M = RB p X :: L) := by
  have wn1 := hw.n1
  have wn8 := hw.n8
  have wls := hw.ls
  have wlh := hw.lh
  have wlg := hw.lg
  have wlr := hw.lr
  have wlb := hw.lb
  refine CallS.ent ?_
  refine CallS.enter Try.func15 rfl rfl rfl rfl rfl ?_
  refine RB_open fun sa sc ha hc ga gc ra rc ba bc fa fc hs hb => ?_
  refine J.imp (M := blk p (rC X.kind X.op X.root X.sum.length sa sc ha X.has.length hc ga X.got.length gc ra X.rnd.length rc ba X.beg.length bc fa X.fly.length fc X.sent) :: sl intE sa sc X.sum :: sl boE ha hc X.has :: sl grE ga gc (hs.zip X.got) :: star (List.zipWith gA hs X.got) :: sl natE ra rc X.rnd :: sl boE ba bc X.beg :: slQ rmE fa fc X.fly :: L) (fun h s => s) ?_
  refine J.seq rfl ?_
  refine J.region rfl ?_
  refine JO.pur rfl rfl rfl (Pur.assign rfl) ?_
  refine JO.nil ?_
  refine J.seq rfl ?_
  refine J.seq rfl ?_
  refine J.region rfl ?_
  refine JO.pur rfl rfl rfl (Pur.move rfl) ?_
  refine JO.pur rfl rfl rfl (Pur.lss rfl rfl) ?_
  refine JO.pur rfl rfl rfl (Pur.move rfl) ?_
  refine JO.splitB 8 rfl (fun h8 => ?_) (fun h8 => ?_)
  · try simp only [bSimp, bSimp2, ne_eq] at h8
    refine JO.no rfl rfl rfl ?_
    refine JO.no rfl rfl rfl ?_
    refine JO.no rfl rfl rfl ?_
    refine JO.no rfl rfl rfl ?_
    refine JO.no rfl rfl rfl ?_
    refine JO.no rfl rfl rfl ?_
    refine JO.no rfl rfl rfl ?_
    refine JO.pur rfl rfl rfl (Pur.pickT rfl rfl) ?_
    refine JO.nil ?_
    refine J.condT rfl rfl ?_
    refine J.seq rfl ?_
    refine J.region rfl ?_
    refine JO.pur rfl rfl rfl (Pur.assign rfl) ?_
    refine JO.nil ?_
    refine J.ret rfl rfl ?_
    refine ⟨_, _, ⟨rfl, rfl⟩, rfl, (fun h s => RB_mk (R := X) (L := L) ⟨sa, sc, ha, hc, ga, gc, ra, rc, ba, bc, fa, fc, hs⟩ hb (show Sat h (blk p (rC X.kind X.op X.root X.sum.length sa sc ha X.has.length hc ga X.got.length gc ra X.rnd.length rc ba X.beg.length bc fa X.fly.length fc X.sent) :: sl intE sa sc X.sum :: sl boE ha hc X.has :: sl grE ga gc (hs.zip X.got) :: star (List.zipWith gA hs X.got) :: sl natE ra rc X.rnd :: sl boE ba bc X.beg :: slQ rmE fa fc X.fly :: L) from SubC.out h s))⟩
  · try simp only [bSimp, bSimp2, ne_eq] at h8
    refine JO.pur rfl rfl rfl (Pur.move rfl) ?_
    refine JO.pur rfl rfl rfl (Pur.move rfl) ?_
    refine JO.pur rfl rfl rfl (Pur.nilCheck rfl) ?_
    refine JO.pur rfl rfl rfl (Pur.fieldAddr rfl) ?_
    refine JO.pur rfl rfl rfl (Pur.load rfl (CellIn.blk rfl)) ?_
    refine JO.pur rfl rfl rfl (Pur.len rfl) ?_
    refine JO.pur rfl rfl rfl (Pur.geq rfl rfl) ?_
    refine JO.pur rfl rfl rfl (Pur.pickF rfl rfl) ?_
    refine JO.nil ?_
    refine J.setv (u' := .bool true) 16 rfl (congrArg Value.bool (decide_eq_true (by omega))) ?_
    refine J.condT rfl rfl ?_
    refine J.seq rfl ?_
    refine J.region rfl ?_
    refine JO.pur rfl rfl rfl (Pur.assign rfl) ?_
    refine JO.nil ?_
    refine J.ret rfl rfl ?_
    refine ⟨_, _, ⟨rfl, rfl⟩, rfl, (fun h s => RB_mk (R := X) (L := L) ⟨sa, sc, ha, hc, ga, gc, ra, rc, ba, bc, fa, fc, hs⟩ hb (show Sat h (blk p (rC X.kind X.op X.root X.sum.length sa sc ha X.has.length hc ga X.got.length gc ra X.rnd.length rc ba X.beg.length bc fa X.fly.length fc X.sent) :: sl intE sa sc X.sum :: sl boE ha hc X.has :: sl grE ga gc (hs.zip X.got) :: star (List.zipWith gA hs X.got) :: sl natE ra rc X.rnd :: sl boE ba bc X.beg :: slQ rmE fa fc X.fly :: L) from SubC.out h s))⟩

end Go.Proofs.Ytoikjjpleonllaa
