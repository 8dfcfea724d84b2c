/-
  A part of the proof of the claim that this folder bears.
-/
import Derived.Test.YtoikjjpleonllaaPAQ
/- The text R7. -/
set_option linter.unusedVariables false
set_option linter.unusedSimpArgs false
set_option maxRecDepth 10000
namespace Go.Proofs.Ytoikjjpleonllaa
open Go Go.KK Gr Rg

theorem slin_ne {α : Type} {E : Enc α} {L : List Asn} {a : Option Addr} {xs : List α} [hi : SlIn E L a xs] (hx : xs ≠ []) {h : Hp} (s : Sat h L) : a ≠ none := fun e => by
  rcases hi.out h s with h0 | ⟨b, off, C, T, fz, ha, _⟩
  · exact hx h0
  · rw [e] at ha; cases ha
set_option maxHeartbeats 400000000 in
theorem newR_ok {L : List Asn} {va : Option Addr} {n cap : Nat} {k o : ByteArray} {root : Int} {vs : List Int} [SlIn intE L va vs] (hn : n = vs.length) :
    CallS Try.prog 11 [.string k, .string o, .int .i64 root, .slice va n cap].toArray L (fun v M => (¬ goodN k o root vs ∧ v = .tuple #[.pointer none, .int .i64 2] ∧ M = L) ∨ (goodN k o root vs ∧ ∃ p, v = .tuple #[.pointer (some ⟨p, 0, none⟩), .int .i64 0] ∧ M = RB p (newR k o root vs) :: L)) := by
  subst hn
  refine CallS.ent ?_
  refine CallS.enter Try.func11 rfl rfl rfl rfl rfl ?_
  refine J.seq rfl ?_
  refine J.region rfl ?_
  refine JO.pur rfl rfl rfl (Pur.assign rfl) ?_
  refine JO.pur rfl rfl rfl (Pur.assign rfl) ?_
  refine JO.nil ?_
  refine J.seq rfl ?_
  refine J.region rfl ?_
  refine JO.pur rfl rfl rfl (Pur.move rfl) ?_
  refine JO.pur rfl rfl rfl (Pur.len rfl) ?_
  refine JO.pur rfl rfl rfl (Pur.assign rfl) ?_
  refine JO.nil ?_
  refine J.seq rfl ?_
  refine J.seq rfl ?_
  refine J.region rfl ?_
  refine JO.pur rfl rfl rfl (Pur.move rfl) ?_
  refine JO.eff rfl rfl rfl (Eff.call rfl (rNone_ok (t := o))) ?_
  rintro _ _ ⟨a23, rfl, rfl⟩
  refine JO.pur rfl rfl rfl (Pur.move rfl) ?_
  refine JO.pur rfl rfl rfl (Pur.extract rfl rfl) ?_
  refine JO.pur rfl rfl rfl (Pur.extract rfl rfl) ?_
  refine JO.pur rfl rfl rfl (Pur.assign rfl) ?_
  refine JO.pur rfl rfl rfl (Pur.assign rfl) ?_
  refine JO.nil ?_
  refine J.seq rfl ?_
  refine J.cut2 (ι := Unit) (fun q => okN k o root vs) (fun q => []) [(0, _), (1, _), (2, _), (3, _), (10, _)] (fun q => L) (.cons rfl rfl (.cons rfl rfl (.cons rfl rfl (.cons rfl rfl (.cons rfl rfl .nil))))) ?_ ?_
  · rintro - hok
    try dsimp only
    obtain ⟨hka, hoa, ⟨h1, h8⟩, hra⟩ := hok
    refine J.seq rfl ?_
    refine J.seq rfl ?_
    refine J.cut2 (ι := Unit) (fun q => ¬ boolN k o vs) (fun q => []) [(0, _), (1, _), (2, _), (3, _), (10, _)] (fun q => L) (.cons rfl rfl (.cons rfl rfl (.cons rfl rfl (.cons rfl rfl (.cons rfl rfl .nil))))) ?_ ?_
    · rintro - hnb
      try dsimp only
      refine J.seq rfl ?_
      refine J.cut1 (ι := Nat) (fun q => True) (fun q => [(14, .pointer (some ⟨q, 0, none⟩))]) [(0, _), (2, _), (10, _)] (fun q => RB q (newR1 k o root vs) :: L) (.cons rfl rfl (.cons rfl rfl (.cons rfl rfl .nil))) ?_ ?_
      · rintro p -
        try dsimp only
        refine J.seq rfl ?_
        refine J.seq rfl ?_
        refine J.cut2 (ι := Unit) (fun q => True) (fun q => []) [(0, _), (2, _), (10, _), (14, _)] (fun q => RB p (newR0 k o root vs) :: L) (.cons rfl rfl (.cons rfl rfl (.cons rfl rfl (.cons rfl rfl .nil)))) ?_ ?_
        · rintro - -
          try dsimp only
          refine J.seq rfl ?_
          refine J.seq rfl ?_
          obtain ⟨Y, hY⟩ : ∃ Y, Y = newR0 k o root vs := ⟨_, rfl⟩
          have hw : WR vs.length Y := by rw [hY]; exact WR0 h1 h8
          have hkY : Y.kind = k := by rw [hY]; rfl
          have hoY : okOp Y.op := by rw [hY]; exact o0_ok (ok_ops hoa)
          have hrY : Y.root = root := by rw [hY]; rfl
          have hfY : Y.fly.length = 0 := by rw [hY]; rfl
          have hg0 : gotL 0 Y := by rw [hY]; exact got0 k o root vs
          rw [← hY]
          have wls := hw.ls
          have hrt : rrt Y = root.toNat := by unfold rrt; rw [hrY]
          refine J.region rfl ?_
          refine JO.pur rfl rfl rfl (Pur.move rfl) ?_
          refine JO.nil ?_
          refine J.block rfl ?_
          refine J.seq rfl ?_
          refine J.region rfl ?_
          refine JO.pur rfl rfl rfl (Pur.eqlT rfl rfl) ?_
          refine JO.pur rfl rfl rfl (Pur.assign rfl) ?_
          refine JO.nil ?_
          refine J.splitB 133 rfl (fun h133 => ?_) (fun h133 => ?_)
          · try simp only [bSimp, bSimp2, ne_eq] at h133
            have hkc : k = sCast := h133
            obtain ⟨hr0, hr1⟩ := hra (by rw [hkc]; decide)
            have hrn : root.toNat < vs.length := by omega
            refine RB_open fun sa sc ha hc ga gc ra rc ba bc fa fc hs hb => ?_
            refine J.imp (M := blk p (rC Y.kind Y.op Y.root Y.sum.length sa sc ha Y.has.length hc ga Y.got.length gc ra Y.rnd.length rc ba Y.beg.length bc fa Y.fly.length fc Y.sent) :: sl intE sa sc Y.sum :: sl boE ha hc Y.has :: sl grE ga gc (hs.zip Y.got) :: star (List.zipWith gA hs Y.got) :: sl natE ra rc Y.rnd :: sl boE ba bc Y.beg :: slQ rmE fa fc Y.fly :: L) (fun h s => s) ?_
            refine J.condT rfl rfl ?_
            refine J.region rfl ?_
            refine JO.pur rfl rfl rfl (Pur.move rfl) ?_
            refine JO.pur rfl rfl rfl (Pur.move rfl) ?_
            refine JO.setv (u' := .int .i64 ((root.toNat : Nat) : Int)) 136 rfl (congrArg (Value.int .i64) (Int.toNat_of_nonneg hr0).symm) ?_
            refine JO.pur rfl rfl rfl (Pur.move rfl) ?_
            refine JO.pur rfl rfl rfl (Pur.nilCheck rfl) ?_
            refine JO.pur rfl rfl rfl (Pur.fieldAddr rfl) ?_
            refine JO.pur rfl rfl rfl (Pur.load rfl (CellIn.blk rfl)) ?_
            refine JO.pur rfl rfl rfl (Pur.move rfl) ?_
            refine JO.pur rfl rfl rfl (Pur.idx rfl rfl rfl (by first | rfl | (simp; done) | omega | (simp; omega)) (Int.toNat_of_nonneg hr0).symm (by rw [wls]; exact hrn)) ?_
            refine JO.pur rfl rfl rfl (Pur.load rfl (CellIn.el0 rfl (getD_get 0 (by rw [wls]; exact hrn)) rfl)) ?_
            refine JO.setv (u' := .int .i64 (rsum Y root.toNat)) 143 rfl rfl ?_
            refine JO.imp (M := RB p Y :: L) (fun h s => RB_mk (R := Y) (L := L) ⟨sa, sc, ha, hc, ga, gc, ra, rc, ba, bc, fa, fc, hs⟩ hb (show Sat h (blk p (rC Y.kind Y.op Y.root Y.sum.length sa sc ha Y.has.length hc ga Y.got.length gc ra Y.rnd.length rc ba Y.beg.length bc fa Y.fly.length fc Y.sent) :: sl intE sa sc Y.sum :: sl boE ha hc Y.has :: sl grE ga gc (hs.zip Y.got) :: star (List.zipWith gA hs Y.got) :: sl natE ra rc Y.rnd :: sl boE ba bc Y.beg :: slQ rmE fa fc Y.fly :: L) from SubC.out h s)) ?_
            refine JO.eff rfl rfl rfl (Eff.call rfl (rcast_ok (X := Y) (i := root.toNat) (z := rsum Y root.toNat) hw (by rw [hrY]; exact hr0) (by rw [hrY]; exact hr1) hrn (by omega))) ?_
            rintro _ _ ⟨rfl, rfl⟩
            refine JO.nil ?_
            refine J.inBlock ?_
            refine J.seq rfl ?_
            refine J.region rfl ?_
            refine JO.pur rfl rfl rfl (Pur.move rfl) ?_
            refine JO.pur rfl rfl rfl (Pur.assign rfl) ?_
            refine JO.pur rfl rfl rfl (Pur.assign rfl) ?_
            refine JO.nil ?_
            refine J.ret rfl rfl ?_
            first
            | exact ⟨_, _, .inl ⟨hbad, rfl, rfl⟩, rfl, SubC.out⟩
            | (refine ⟨_, _, .inr ⟨⟨⟨hka, hoa, ⟨h1, h8⟩, hra⟩, hnb⟩, p, rfl, rfl⟩, rfl, fun h s => ?_⟩
               have e : newR k o root vs = beginR Y := by rw [hY]; rfl
               rw [e]; unfold beginR; rw [hkY, wls, hrt]
               first
               | (rw [if_pos hkc]; exact SubC.out h s)
               | (rw [if_neg hkc, if_pos hks]; rw [hqe] at s; exact SubC.out h s)
               | (rw [if_neg hkc, if_neg hks]; rw [hqe] at s; exact SubC.out h s))
          · try simp only [bSimp, bSimp2, ne_eq] at h133
            have hkc : ¬ k = sCast := h133
            refine J.condF rfl rfl ?_
            refine J.seq rfl ?_
            refine J.region rfl ?_
            refine JO.pur rfl rfl rfl (Pur.eqlT rfl rfl) ?_
            refine JO.pur rfl rfl rfl (Pur.assign rfl) ?_
            refine JO.nil ?_
            refine J.splitB 145 rfl (fun h145 => ?_) (fun h145 => ?_)
            · try simp only [bSimp, bSimp2, ne_eq] at h145
              have hks : k = sScan := h145
              refine J.condT rfl rfl ?_
              refine J.seq rfl ?_
              refine J.region rfl ?_
              refine JO.pur rfl rfl rfl (Pur.assign rfl) ?_
              refine JO.nil ?_
              refine J.block rfl ?_
              refine J.loopF (ι := Nat) (fun q => q ≤ vs.length) (fun q => [(15, .int .i64 (q : Int))]) [(10, _), (14, _)] (fun q => RB p (begRS Y q) :: L) (fun q => vs.length - q) 0 rfl (.cons rfl rfl (.cons rfl rfl .nil)) (.cons rfl rfl .nil) (by first | exact fun _ h => h | exact SubC.out | (dsimp only; exact SubC.out)) (Nat.zero_le _) ?_
              rintro q hq ihq
              try dsimp only
              refine J.seq rfl ?_
              refine J.seq rfl ?_
              refine J.region rfl ?_
              refine JO.pur rfl rfl rfl (Pur.move rfl) ?_
              refine JO.pur rfl rfl rfl (Pur.move rfl) ?_
              refine JO.pur rfl rfl rfl (Pur.lss rfl rfl) ?_
              refine JO.nil ?_
              refine J.splitB 149 rfl (fun h149 => ?_) (fun h149 => ?_)
              · try simp only [bSimp, bSimp2, ne_eq] at h149
                have hql : q < vs.length := by omega
                have k1 := begRS_keep hw q hq
                have k2 := k1.few
                refine J.condT rfl rfl ?_
                refine J.skip rfl ?_
                refine J.seq rfl ?_
                refine J.block rfl ?_
                refine J.region rfl ?_
                refine JO.pur rfl rfl rfl (Pur.move rfl) ?_
                refine JO.pur rfl rfl rfl (Pur.move rfl) ?_
                refine JO.eff rfl rfl rfl (Eff.call rfl (rscan_ok (X := begRS Y q) (i := q) k1.w hql (by rw [k1.op]; exact hoY) (by omega) (Nat.le_trans (hg0.keep k1 q) (by decide)))) ?_
                rintro _ _ ⟨rfl, rfl⟩
                refine JO.nil ?_
                refine J.inBlock ?_
                refine J.region rfl ?_
                refine JO.pur rfl rfl rfl (Pur.move rfl) ?_
                refine JO.pur rfl rfl rfl (Pur.add rfl rfl (wr64 (by omega))) ?_
                refine JO.pur rfl rfl rfl (Pur.assign rfl) ?_
                refine JO.nil ?_
                exact J.weaken (.cons rfl (congrArg (Value.int .i64) (by first | rfl | (dsimp only; omega))) (.cons rfl rfl (.cons rfl rfl .nil))) (by first | exact fun _ h => h | exact SubC.out | (dsimp only; exact SubC.out)) (ihq (q + 1) (by omega) (by omega))
              · try simp only [bSimp, bSimp2, ne_eq] at h149
                have hqe : q = vs.length := by omega
                refine J.condF rfl rfl ?_
                refine J.exit rfl rfl ?_
                refine J.inBlock ?_
                refine J.seq rfl ?_
                refine J.region rfl ?_
                refine JO.pur rfl rfl rfl (Pur.move rfl) ?_
                refine JO.pur rfl rfl rfl (Pur.assign rfl) ?_
                refine JO.pur rfl rfl rfl (Pur.assign rfl) ?_
                refine JO.nil ?_
                refine J.ret rfl rfl ?_
                first
                | exact ⟨_, _, .inl ⟨hbad, rfl, rfl⟩, rfl, SubC.out⟩
                | (refine ⟨_, _, .inr ⟨⟨⟨hka, hoa, ⟨h1, h8⟩, hra⟩, hnb⟩, p, rfl, rfl⟩, rfl, fun h s => ?_⟩
                   have e : newR k o root vs = beginR Y := by rw [hY]; rfl
                   rw [e]; unfold beginR; rw [hkY, wls, hrt]
                   first
                   | (rw [if_pos hkc]; exact SubC.out h s)
                   | (rw [if_neg hkc, if_pos hks]; rw [hqe] at s; exact SubC.out h s)
                   | (rw [if_neg hkc, if_neg hks]; rw [hqe] at s; exact SubC.out h s))
            · try simp only [bSimp, bSimp2, ne_eq] at h145
              have hks : ¬ k = sScan := h145
              obtain ⟨hr0, hr1⟩ := hra hks
              have hrn : root.toNat < vs.length := by omega
              refine J.condF rfl rfl ?_
              refine J.seq rfl ?_
              refine J.region rfl ?_
              refine JO.pur rfl rfl rfl (Pur.assign rfl) ?_
              refine JO.nil ?_
              refine J.block rfl ?_
              refine J.loopF (ι := Nat) (fun q => q ≤ vs.length) (fun q => [(16, .int .i64 (q : Int))]) [(2, _), (10, _), (14, _)] (fun q => RB p (begR vs.length root.toNat Y q) :: L) (fun q => vs.length - q) 0 rfl (.cons rfl rfl (.cons rfl rfl (.cons rfl rfl .nil))) (.cons rfl rfl .nil) (by first | exact fun _ h => h | exact SubC.out | (dsimp only; exact SubC.out)) (Nat.zero_le _) ?_
              rintro q hq ihq
              try dsimp only
              refine J.seq rfl ?_
              refine J.seq rfl ?_
              refine J.region rfl ?_
              refine JO.pur rfl rfl rfl (Pur.move rfl) ?_
              refine JO.pur rfl rfl rfl (Pur.move rfl) ?_
              refine JO.pur rfl rfl rfl (Pur.lss rfl rfl) ?_
              refine JO.nil ?_
              refine J.splitB 117 rfl (fun h117 => ?_) (fun h117 => ?_)
              · try simp only [bSimp, bSimp2, ne_eq] at h117
                have hql : q < vs.length := by omega
                have k1 := begR_keep (root := root.toNat) hw q hq
                have k2 := k1.few
                refine J.condT rfl rfl ?_
                refine J.skip rfl ?_
                refine J.seq rfl ?_
                refine J.block rfl ?_
                refine J.seq rfl ?_
                refine J.region rfl ?_
                refine JO.pur rfl rfl rfl (Pur.move rfl) ?_
                refine JO.pur rfl rfl rfl (Pur.move rfl) ?_
                refine JO.setv (u' := .int .i64 ((root.toNat : Nat) : Int)) 122 rfl (congrArg (Value.int .i64) (Int.toNat_of_nonneg hr0).symm) ?_
                refine JO.pur rfl rfl rfl (Pur.move rfl) ?_
                refine JO.eff rfl rfl rfl (Eff.call rfl (rChildren_ok (n := ((vs.length : Nat) : Int)) (root := ((root.toNat : Nat) : Int)) (q := (q : Int)))) ?_
                rintro _ _ ⟨a124, c124, rfl, rfl⟩
                have hcv : (chV ((vs.length : Nat) : Int) ((root.toNat : Nat) : Int) (q : Int)).1 = natI (chP vs.length root.toNat q) ∧ (chV ((vs.length : Nat) : Int) ((root.toNat : Nat) : Int) (q : Int)).2 = 0 := by unfold chV; rw [if_pos ⟨by omega, by omega, by omega, by omega, by omega, by omega⟩]; exact ⟨rfl, rfl⟩
                rw [hcv.1, hcv.2]
                have hnl := natI_len (chP vs.length root.toNat q)
                refine JO.pur rfl rfl rfl (Pur.move rfl) ?_
                refine JO.pur rfl rfl rfl (Pur.extract rfl rfl) ?_
                refine JO.pur rfl rfl rfl (Pur.extract rfl rfl) ?_
                refine JO.pur rfl rfl rfl (Pur.assign rfl) ?_
                refine JO.pur rfl rfl rfl (Pur.assign rfl) ?_
                refine JO.nil ?_
                refine J.seq rfl ?_
                refine J.region rfl ?_
                refine JO.pur rfl rfl rfl (Pur.move rfl) ?_
                refine JO.pur rfl rfl rfl (Pur.len rfl) ?_
                refine JO.pur rfl rfl rfl (Pur.eqlI rfl rfl) ?_
                refine JO.nil ?_
                refine J.splitB 129 rfl (fun h129 => ?_) (fun h129 => ?_)
                · try simp only [bSimp, bSimp2, ne_eq] at h129
                  have hce : chP vs.length root.toNat q = [] := List.eq_nil_of_length_eq_zero (by omega)
                  have hst : begR vs.length root.toNat Y (q + 1) = combR (begR vs.length root.toNat Y q) q := if_pos hce
                  refine J.condT rfl rfl ?_
                  refine J.region rfl ?_
                  refine JO.pur rfl rfl rfl (Pur.move rfl) ?_
                  refine JO.pur rfl rfl rfl (Pur.move rfl) ?_
                  refine JO.imp (M := RB p (begR vs.length root.toNat Y q) :: L) (fun h s => SubC.out h s) ?_
                  refine JO.eff rfl rfl rfl (Eff.call rfl (rcomb_ok (X := begR vs.length root.toNat Y q) (i := q) k1.w (by rw [k1.root, hrY]; exact hr0) (by rw [k1.root, hrY]; exact hr1) hql (by rw [k1.op]; exact hoY) (by omega) (Nat.le_trans (hg0.keep k1 q) (by decide)))) ?_
                  rintro _ _ ⟨rfl, rfl⟩
                  refine JO.nil ?_
                  refine J.inBlock ?_
                  refine J.region rfl ?_
                  refine JO.pur rfl rfl rfl (Pur.move rfl) ?_
                  refine JO.pur rfl rfl rfl (Pur.add rfl rfl (wr64 (by omega))) ?_
                  refine JO.pur rfl rfl rfl (Pur.assign rfl) ?_
                  refine JO.nil ?_
                  exact J.weaken (.cons rfl (congrArg (Value.int .i64) (by first | rfl | (dsimp only; omega))) (.cons rfl rfl (.cons rfl rfl (.cons rfl rfl .nil)))) (fun h s => by rw [hst]; exact SubC.out h s) (ihq (q + 1) (by omega) (by omega))
                · try simp only [bSimp, bSimp2, ne_eq] at h129
                  have hce : ¬ chP vs.length root.toNat q = [] := fun e => h129 (by rw [e]; rfl)
                  have hst : begR vs.length root.toNat Y (q + 1) = begR vs.length root.toNat Y q := if_neg hce
                  refine J.condF rfl rfl ?_
                  refine J.skip rfl ?_
                  refine J.inBlock ?_
                  refine J.region rfl ?_
                  refine JO.pur rfl rfl rfl (Pur.move rfl) ?_
                  refine JO.pur rfl rfl rfl (Pur.add rfl rfl (wr64 (by omega))) ?_
                  refine JO.pur rfl rfl rfl (Pur.assign rfl) ?_
                  refine JO.nil ?_
                  exact J.weaken (.cons rfl (congrArg (Value.int .i64) (by first | rfl | (dsimp only; omega))) (.cons rfl rfl (.cons rfl rfl (.cons rfl rfl .nil)))) (fun h s => by rw [hst]; exact SubC.out h s) (ihq (q + 1) (by omega) (by omega))
              · try simp only [bSimp, bSimp2, ne_eq] at h117
                have hqe : q = vs.length := by omega
                refine J.condF rfl rfl ?_
                refine J.exit rfl rfl ?_
                refine J.inBlock ?_
                refine J.seq rfl ?_
                refine J.region rfl ?_
                refine JO.pur rfl rfl rfl (Pur.move rfl) ?_
                refine JO.pur rfl rfl rfl (Pur.assign rfl) ?_
                refine JO.pur rfl rfl rfl (Pur.assign rfl) ?_
                refine JO.nil ?_
                refine J.ret rfl rfl ?_
                first
                | exact ⟨_, _, .inl ⟨hbad, rfl, rfl⟩, rfl, SubC.out⟩
                | (refine ⟨_, _, .inr ⟨⟨⟨hka, hoa, ⟨h1, h8⟩, hra⟩, hnb⟩, p, rfl, rfl⟩, rfl, fun h s => ?_⟩
                   have e : newR k o root vs = beginR Y := by rw [hY]; rfl
                   rw [e]; unfold beginR; rw [hkY, wls, hrt]
                   first
                   | (rw [if_pos hkc]; exact SubC.out h s)
                   | (rw [if_neg hkc, if_pos hks]; rw [hqe] at s; exact SubC.out h s)
                   | (rw [if_neg hkc, if_neg hks]; rw [hqe] at s; exact SubC.out h s))
        · intro cuta11
          refine J.region rfl ?_
          refine JO.pur rfl rfl rfl (Pur.move rfl) ?_
          refine JO.pur rfl rfl rfl (Pur.eqlT rfl rfl) ?_
          refine JO.nil ?_
          refine J.splitB 105 rfl (fun h105 => ?_) (fun h105 => ?_)
          · try simp only [bSimp, bSimp2, ne_eq] at h105
            refine J.condT rfl rfl ?_
            obtain ⟨X, hX⟩ : ∃ X, X = newR1 k o root vs := ⟨_, rfl⟩
            have hXl : X.sum.length = vs.length := by rw [hX]; rfl
            rw [← hX]
            refine RB_open fun sa sc ha hc ga gc ra rc ba bc fa fc hs hb => ?_
            refine J.imp (M := blk p (rC X.kind X.op X.root X.sum.length sa sc ha X.has.length hc ga X.got.length gc ra X.rnd.length rc ba X.beg.length bc fa X.fly.length fc X.sent) :: sl intE sa sc X.sum :: sl boE ha hc X.has :: sl grE ga gc (hs.zip X.got) :: star (List.zipWith gA hs X.got) :: sl natE ra rc X.rnd :: sl boE ba bc X.beg :: slQ rmE fa fc X.fly :: L) (fun h s => s) ?_
            refine J.mask0 (n := 10) [6, 9] rfl Try.mixed rfl (by kernel_rfl) ?_
            refine JM.take 0 (fun _ h => h) rfl (by kernel_rfl) rfl rfl rfl (m' := 1) rfl (Pur.move rfl) ?_
            refine JM.takeF 1 (.inr (fun _ h => h)) rfl (by kernel_rfl) rfl rfl rfl (m' := 3) rfl (Pur.move rfl) ?_
            refine JM.takeF 2 (.inr (fun _ h => h)) rfl (by kernel_rfl) rfl rfl rfl (m' := 7) rfl (Pur.move rfl) ?_
            refine JM.take 4 (fun _ h => h) rfl (by kernel_rfl) rfl rfl rfl (m' := 23) rfl (Pur.nilCheck rfl) ?_
            refine JM.take 5 (fun _ h => h) rfl (by kernel_rfl) rfl rfl rfl (m' := 55) rfl (Pur.fieldAddr rfl) ?_
            refine JM.many (rs := [3, 6]) (by kernel_rfl) rfl (fun i hi => ?_)
            simp only [List.mem_cons, List.not_mem_nil, or_false] at hi
            rcases hi with rfl | rfl
            · skip
              refine JMi.eff rfl rfl rfl rfl (m' := 63) rfl (Eff.make intE 0 rfl rfl rfl rfl rfl (by decide) (by omega) (by omega)) ?_
              rintro _ _ ⟨b109, rfl, rfl⟩
              refine ⟨.inr (fun _ h => h.tail), ?_⟩
              refine JM.one (i := 6) (by kernel_rfl) ?_
              refine JMi.effN rfl rfl rfl (m' := 127) rfl (Eff.storeB rfl rfl rfl (.tail .head)) ?_
              rintro _ _ ⟨rfl, rfl⟩
              refine ⟨.inl (by simp), ?_⟩
              refine JM.takeF 7 (.inl (by kernel_rfl)) rfl (by kernel_rfl) rfl rfl rfl (m' := 255) rfl (Pur.nilCheck rfl) ?_
              refine JM.takeF 8 (.inl (by kernel_rfl)) rfl (by kernel_rfl) rfl rfl rfl (m' := 511) rfl (Pur.fieldAddr rfl) ?_
              refine JM.one (i := 9) (by kernel_rfl) ?_
              refine JMi.effN rfl rfl rfl (m' := 1023) rfl (Eff.storeB rfl rfl rfl (.tail (.tail (.tail (.tail .head))))) ?_
              rintro _ _ ⟨rfl, rfl⟩
              refine ⟨.inl (by simp), ?_⟩
              refine JM.done rfl ?_
              exact J.weaken (.cons rfl rfl (.cons rfl rfl (.cons rfl rfl (.cons rfl rfl .nil)))) (fun h s => by rw [newR1_bar h105, ← hX]; have s4 : Sat h (blk p (rC X.kind ⟨#[43]⟩ X.root (List.replicate vs.length (0 : Int)).length (some ⟨b109, 0, none⟩) vs.length ha X.has.length hc ga X.got.length gc ra X.rnd.length rc ba X.beg.length bc fa X.fly.length fc X.sent) :: sl intE (some ⟨b109, 0, none⟩) vs.length (List.replicate vs.length (0 : Int)) :: sl boE ha hc X.has :: sl grE ga gc (hs.zip X.got) :: star (List.zipWith gA hs X.got) :: sl natE ra rc X.rnd :: sl boE ba bc X.beg :: slQ rmE fa fc X.fly :: L) := (by rw [hXl] at s; rw [List.length_replicate]; exact SubC.out h s); exact ((fun h s => RB_mk (R := { X with op := ⟨#[43]⟩, sum := List.replicate vs.length 0 }) (L := L) ⟨(some ⟨b109, 0, none⟩), vs.length, ha, hc, ga, gc, ra, rc, ba, bc, fa, fc, hs⟩ hb (show Sat h (blk p (rC X.kind ⟨#[43]⟩ X.root (List.replicate vs.length (0 : Int)).length (some ⟨b109, 0, none⟩) vs.length ha X.has.length hc ga X.got.length gc ra X.rnd.length rc ba X.beg.length bc fa X.fly.length fc X.sent) :: sl intE (some ⟨b109, 0, none⟩) vs.length (List.replicate vs.length (0 : Int)) :: sl boE ha hc X.has :: sl grE ga gc (hs.zip X.got) :: star (List.zipWith gA hs X.got) :: sl natE ra rc X.rnd :: sl boE ba bc X.beg :: slQ rmE fa fc X.fly :: L) from SubC.out h s))) h s4) (cuta11 () trivial)
            · skip
              refine JMi.effN rfl rfl rfl (m' := 119) rfl (Eff.storeB rfl rfl rfl (.tail .head)) ?_
              rintro _ _ ⟨rfl, rfl⟩
              refine ⟨.inl (by simp), ?_⟩
              refine JM.one (i := 3) (by kernel_rfl) ?_
              refine JMi.eff rfl rfl rfl rfl (m' := 127) rfl (Eff.make intE 0 rfl rfl rfl rfl rfl (by decide) (by omega) (by omega)) ?_
              rintro _ _ ⟨b109, rfl, rfl⟩
              refine ⟨.inl (.inr (by kernel_rfl)), ?_⟩
              refine JM.takeF 7 (.inl (by kernel_rfl)) rfl (by kernel_rfl) rfl rfl rfl (m' := 255) rfl (Pur.nilCheck rfl) ?_
              refine JM.takeF 8 (.inl (by kernel_rfl)) rfl (by kernel_rfl) rfl rfl rfl (m' := 511) rfl (Pur.fieldAddr rfl) ?_
              refine JM.one (i := 9) (by kernel_rfl) ?_
              refine JMi.effN rfl rfl rfl (m' := 1023) rfl (Eff.storeB rfl rfl rfl (.tail (.tail (.tail (.tail .head))))) ?_
              rintro _ _ ⟨rfl, rfl⟩
              refine ⟨.inl (by simp), ?_⟩
              refine JM.done rfl ?_
              exact J.weaken (.cons rfl rfl (.cons rfl rfl (.cons rfl rfl (.cons rfl rfl .nil)))) (fun h s => by rw [newR1_bar h105, ← hX]; have s4 : Sat h (blk p (rC X.kind ⟨#[43]⟩ X.root (List.replicate vs.length (0 : Int)).length (some ⟨b109, 0, none⟩) vs.length ha X.has.length hc ga X.got.length gc ra X.rnd.length rc ba X.beg.length bc fa X.fly.length fc X.sent) :: sl intE (some ⟨b109, 0, none⟩) vs.length (List.replicate vs.length (0 : Int)) :: sl boE ha hc X.has :: sl grE ga gc (hs.zip X.got) :: star (List.zipWith gA hs X.got) :: sl natE ra rc X.rnd :: sl boE ba bc X.beg :: slQ rmE fa fc X.fly :: L) := (by rw [hXl] at s; rw [List.length_replicate]; exact SubC.out h s); exact ((fun h s => RB_mk (R := { X with op := ⟨#[43]⟩, sum := List.replicate vs.length 0 }) (L := L) ⟨(some ⟨b109, 0, none⟩), vs.length, ha, hc, ga, gc, ra, rc, ba, bc, fa, fc, hs⟩ hb (show Sat h (blk p (rC X.kind ⟨#[43]⟩ X.root (List.replicate vs.length (0 : Int)).length (some ⟨b109, 0, none⟩) vs.length ha X.has.length hc ga X.got.length gc ra X.rnd.length rc ba X.beg.length bc fa X.fly.length fc X.sent) :: sl intE (some ⟨b109, 0, none⟩) vs.length (List.replicate vs.length (0 : Int)) :: sl boE ha hc X.has :: sl grE ga gc (hs.zip X.got) :: star (List.zipWith gA hs X.got) :: sl natE ra rc X.rnd :: sl boE ba bc X.beg :: slQ rmE fa fc X.fly :: L) from SubC.out h s))) h s4) (cuta11 () trivial)
          · try simp only [bSimp, bSimp2, ne_eq] at h105
            refine J.condF rfl rfl ?_
            refine J.skip rfl ?_
            exact J.weaken (.cons rfl rfl (.cons rfl rfl (.cons rfl rfl (.cons rfl rfl .nil)))) (fun h s => by rw [newR1_not h105]; exact SubC.out h s) (cuta11 () trivial)
      · intro cuta10
        refine J.fact (fun h s => slin_ne (E := intE) (L := L) (a := va) (xs := vs) (fun e => by subst e; exact absurd h1 (by decide)) s) fun hva => ?_
        refine J.mask0 (n := 18) [16] rfl Try.mixed rfl (by kernel_rfl) ?_
        refine JM.take 0 (fun _ h => h) rfl (by kernel_rfl) rfl rfl rfl (m' := 1) rfl (Pur.move rfl) ?_
        refine JM.take 1 (fun _ h => h) rfl (by kernel_rfl) rfl rfl rfl (m' := 3) rfl (Pur.move rfl) ?_
        refine JM.take 2 (fun _ h => h) rfl (by kernel_rfl) rfl rfl rfl (m' := 7) rfl (Pur.move rfl) ?_
        refine JM.take 3 (fun _ h => h) rfl (by kernel_rfl) rfl rfl rfl (m' := 15) rfl (Pur.move rfl) ?_
        refine JM.take 5 (fun _ h => h) rfl (by kernel_rfl) rfl rfl rfl (m' := 47) rfl (Pur.move rfl) ?_
        refine JM.take 7 (fun _ h => h) rfl (by kernel_rfl) rfl rfl rfl (m' := 175) rfl (Pur.move rfl) ?_
        refine JM.take 9 (fun _ h => h) rfl (by kernel_rfl) rfl rfl rfl (m' := 687) rfl (Pur.move rfl) ?_
        refine JM.take 11 (fun _ h => h) rfl (by kernel_rfl) rfl rfl rfl (m' := 2735) rfl (Pur.move rfl) ?_
        refine JM.take 13 (fun _ h => h) rfl (by kernel_rfl) rfl rfl rfl (m' := 10927) rfl (Pur.move rfl) ?_
        obtain ⟨b91, a93, c93, b95, b97, b99, b101⟩ : Nat × Option Addr × Nat × Nat × Nat × Nat × Nat := (0, none, 0, 0, 0, 0, 0)
        refine JM.cut (ι := Nat × Option Addr × Nat × Nat × Nat × Nat × Nat) (fuel1 := 3) (m1 := 32767) (fun x => [(91, .slice (some ⟨x.1, 0, none⟩) 0 0), (93, .slice x.2.1 vs.length x.2.2.1), (95, .slice (some ⟨x.2.2.2.1, 0, none⟩) vs.length vs.length), (97, .slice (some ⟨x.2.2.2.2.1, 0, none⟩) vs.length vs.length), (99, .slice (some ⟨x.2.2.2.2.2.1, 0, none⟩) vs.length vs.length), (101, .slice (some ⟨x.2.2.2.2.2.2, 0, none⟩) vs.length vs.length), (0, .string k), (2, .int .i64 root), (10, .int .i64 (vs.length : Int)), (87, .string k), (88, .string o), (89, .int .i64 root), (90, .int .i64 (vs.length : Int)), (92, .slice va vs.length cap), (94, .int .i64 (vs.length : Int)), (96, .int .i64 (vs.length : Int)), (98, .int .i64 (vs.length : Int)), (100, .int .i64 (vs.length : Int))]) (fun x => sl intE x.2.1 x.2.2.1 vs :: sl boE (some ⟨x.2.2.2.1, 0, none⟩) vs.length (List.replicate vs.length false) :: sl grE (some ⟨x.2.2.2.2.1, 0, none⟩) vs.length (List.replicate vs.length ((none, 0), [])) :: sl natE (some ⟨x.2.2.2.2.2.1, 0, none⟩) vs.length (List.replicate vs.length 0) :: sl boE (some ⟨x.2.2.2.2.2.2, 0, none⟩) vs.length (List.replicate vs.length false) :: L) (fun x => ?_) (fun H32767 => ?_)
        · obtain ⟨b91, a93, c93, b95, b97, b99, b101⟩ := x
          dsimp only
          refine JM.take 15 (fun _ h => h.tail.tail.tail.tail.tail) rfl (by kernel_rfl) rfl rfl rfl (m' := 65535) rfl (Pur.build (cs := [_, _, _, _, _, _, _, _, _, _, _]) rfl rfl) ?_
          refine JM.one (i := 16) (by kernel_rfl) ?_
          refine JMi.eff rfl rfl rfl rfl (m' := 131071) rfl (Eff.box (cs := [_, _, _, _, _, _, _, _, _, _, _]) rfl rfl) ?_
          rintro _ _ ⟨b103, rfl, rfl⟩
          refine ⟨.inl (by simp), ?_⟩
          refine JM.takeF 17 (.inl (by kernel_rfl)) rfl (by kernel_rfl) rfl rfl rfl (m' := 262143) rfl (Pur.assign rfl) ?_
          refine JM.done rfl ?_
          exact J.weaken (.cons rfl rfl (.cons rfl rfl (.cons rfl rfl (.cons rfl rfl .nil)))) (fun h s => new_mk (b := b103) (n := vs.length) (sa := a93) (cs := c93) (x1 := some ⟨b95, 0, none⟩) (x2 := some ⟨b97, 0, none⟩) (x3 := some ⟨b99, 0, none⟩) (x4 := some ⟨b101, 0, none⟩) rfl (SubC.out h s)) (cuta10 b103 trivial)
        refine JM.cut (ι := Nat × Option Addr × Nat × Nat × Nat × Nat × Nat) (fuel1 := 4) (m1 := 16383) (fun x => [(91, .slice (some ⟨x.1, 0, none⟩) 0 0), (93, .slice x.2.1 vs.length x.2.2.1), (95, .slice (some ⟨x.2.2.2.1, 0, none⟩) vs.length vs.length), (97, .slice (some ⟨x.2.2.2.2.1, 0, none⟩) vs.length vs.length), (99, .slice (some ⟨x.2.2.2.2.2.1, 0, none⟩) vs.length vs.length), (0, .string k), (2, .int .i64 root), (10, .int .i64 (vs.length : Int)), (87, .string k), (88, .string o), (89, .int .i64 root), (90, .int .i64 (vs.length : Int)), (92, .slice va vs.length cap), (94, .int .i64 (vs.length : Int)), (96, .int .i64 (vs.length : Int)), (98, .int .i64 (vs.length : Int)), (100, .int .i64 (vs.length : Int))]) (fun x => sl intE x.2.1 x.2.2.1 vs :: sl boE (some ⟨x.2.2.2.1, 0, none⟩) vs.length (List.replicate vs.length false) :: sl grE (some ⟨x.2.2.2.2.1, 0, none⟩) vs.length (List.replicate vs.length ((none, 0), [])) :: sl natE (some ⟨x.2.2.2.2.2.1, 0, none⟩) vs.length (List.replicate vs.length 0) :: L) (fun x => ?_) (fun H16383 => ?_)
        · obtain ⟨b91, a93, c93, b95, b97, b99, b101⟩ := x
          dsimp only
          refine JM.one (i := 14) (by kernel_rfl) ?_
          refine JMi.eff rfl rfl rfl rfl (m' := 32767) rfl (Eff.make boE false rfl rfl rfl rfl rfl (by decide) (by omega) (by omega)) ?_
          rintro _ _ ⟨b101, rfl, rfl⟩
          refine ⟨.inr (fun _ h => h.tail.tail.tail.tail.tail), ?_⟩
          have H := H32767 (b91, a93, c93, b95, b97, b99, b101)
          dsimp only at H
          refine JM.weaken ?_ ?_ H
          · exact (.cons rfl rfl (.cons rfl rfl (.cons rfl rfl (.cons rfl rfl (.cons rfl rfl (.cons rfl rfl (.cons rfl rfl (.cons rfl rfl (.cons rfl rfl (.cons rfl rfl (.cons rfl rfl (.cons rfl rfl (.cons rfl rfl (.cons rfl rfl (.cons rfl rfl (.cons rfl rfl (.cons rfl rfl (.cons rfl rfl .nil))))))))))))))))))
          · exact fun h s => SubC.out h s
        refine JM.cut (ι := Nat × Option Addr × Nat × Nat × Nat × Nat × Nat) (fuel1 := 4) (m1 := 28671) (fun x => [(91, .slice (some ⟨x.1, 0, none⟩) 0 0), (93, .slice x.2.1 vs.length x.2.2.1), (95, .slice (some ⟨x.2.2.2.1, 0, none⟩) vs.length vs.length), (97, .slice (some ⟨x.2.2.2.2.1, 0, none⟩) vs.length vs.length), (101, .slice (some ⟨x.2.2.2.2.2.2, 0, none⟩) vs.length vs.length), (0, .string k), (2, .int .i64 root), (10, .int .i64 (vs.length : Int)), (87, .string k), (88, .string o), (89, .int .i64 root), (90, .int .i64 (vs.length : Int)), (92, .slice va vs.length cap), (94, .int .i64 (vs.length : Int)), (96, .int .i64 (vs.length : Int)), (98, .int .i64 (vs.length : Int)), (100, .int .i64 (vs.length : Int))]) (fun x => sl intE x.2.1 x.2.2.1 vs :: sl boE (some ⟨x.2.2.2.1, 0, none⟩) vs.length (List.replicate vs.length false) :: sl grE (some ⟨x.2.2.2.2.1, 0, none⟩) vs.length (List.replicate vs.length ((none, 0), [])) :: sl boE (some ⟨x.2.2.2.2.2.2, 0, none⟩) vs.length (List.replicate vs.length false) :: L) (fun x => ?_) (fun H28671 => ?_)
        · obtain ⟨b91, a93, c93, b95, b97, b99, b101⟩ := x
          dsimp only
          refine JM.one (i := 12) (by kernel_rfl) ?_
          refine JMi.eff rfl rfl rfl rfl (m' := 32767) rfl (Eff.make natE 0 rfl rfl rfl rfl rfl (by decide) (by omega) (by omega)) ?_
          rintro _ _ ⟨b99, rfl, rfl⟩
          refine ⟨.inr (fun _ h => h.tail.tail.tail.tail.tail), ?_⟩
          have H := H32767 (b91, a93, c93, b95, b97, b99, b101)
          dsimp only at H
          refine JM.weaken ?_ ?_ H
          · exact (.cons rfl rfl (.cons rfl rfl (.cons rfl rfl (.cons rfl rfl (.cons rfl rfl (.cons rfl rfl (.cons rfl rfl (.cons rfl rfl (.cons rfl rfl (.cons rfl rfl (.cons rfl rfl (.cons rfl rfl (.cons rfl rfl (.cons rfl rfl (.cons rfl rfl (.cons rfl rfl (.cons rfl rfl (.cons rfl rfl .nil))))))))))))))))))
          · exact fun h s => SubC.out h s
        refine JM.cut (ι := Nat × Option Addr × Nat × Nat × Nat × Nat × Nat) (fuel1 := 4) (m1 := 31743) (fun x => [(91, .slice (some ⟨x.1, 0, none⟩) 0 0), (93, .slice x.2.1 vs.length x.2.2.1), (95, .slice (some ⟨x.2.2.2.1, 0, none⟩) vs.length vs.length), (99, .slice (some ⟨x.2.2.2.2.2.1, 0, none⟩) vs.length vs.length), (101, .slice (some ⟨x.2.2.2.2.2.2, 0, none⟩) vs.length vs.length), (0, .string k), (2, .int .i64 root), (10, .int .i64 (vs.length : Int)), (87, .string k), (88, .string o), (89, .int .i64 root), (90, .int .i64 (vs.length : Int)), (92, .slice va vs.length cap), (94, .int .i64 (vs.length : Int)), (96, .int .i64 (vs.length : Int)), (98, .int .i64 (vs.length : Int)), (100, .int .i64 (vs.length : Int))]) (fun x => sl intE x.2.1 x.2.2.1 vs :: sl boE (some ⟨x.2.2.2.1, 0, none⟩) vs.length (List.replicate vs.length false) :: sl natE (some ⟨x.2.2.2.2.2.1, 0, none⟩) vs.length (List.replicate vs.length 0) :: sl boE (some ⟨x.2.2.2.2.2.2, 0, none⟩) vs.length (List.replicate vs.length false) :: L) (fun x => ?_) (fun H31743 => ?_)
        · obtain ⟨b91, a93, c93, b95, b97, b99, b101⟩ := x
          dsimp only
          refine JM.one (i := 10) (by kernel_rfl) ?_
          refine JMi.eff rfl rfl rfl rfl (m' := 32767) rfl (Eff.make grE ((none, 0), []) rfl rfl rfl rfl rfl (by decide) (by omega) (by omega)) ?_
          rintro _ _ ⟨b97, rfl, rfl⟩
          refine ⟨.inr (fun _ h => h.tail.tail.tail.tail.tail), ?_⟩
          have H := H32767 (b91, a93, c93, b95, b97, b99, b101)
          dsimp only at H
          refine JM.weaken ?_ ?_ H
          · exact (.cons rfl rfl (.cons rfl rfl (.cons rfl rfl (.cons rfl rfl (.cons rfl rfl (.cons rfl rfl (.cons rfl rfl (.cons rfl rfl (.cons rfl rfl (.cons rfl rfl (.cons rfl rfl (.cons rfl rfl (.cons rfl rfl (.cons rfl rfl (.cons rfl rfl (.cons rfl rfl (.cons rfl rfl (.cons rfl rfl .nil))))))))))))))))))
          · exact fun h s => SubC.out h s
        refine JM.cut (ι := Nat × Option Addr × Nat × Nat × Nat × Nat × Nat) (fuel1 := 4) (m1 := 32511) (fun x => [(91, .slice (some ⟨x.1, 0, none⟩) 0 0), (93, .slice x.2.1 vs.length x.2.2.1), (97, .slice (some ⟨x.2.2.2.2.1, 0, none⟩) vs.length vs.length), (99, .slice (some ⟨x.2.2.2.2.2.1, 0, none⟩) vs.length vs.length), (101, .slice (some ⟨x.2.2.2.2.2.2, 0, none⟩) vs.length vs.length), (0, .string k), (2, .int .i64 root), (10, .int .i64 (vs.length : Int)), (87, .string k), (88, .string o), (89, .int .i64 root), (90, .int .i64 (vs.length : Int)), (92, .slice va vs.length cap), (94, .int .i64 (vs.length : Int)), (96, .int .i64 (vs.length : Int)), (98, .int .i64 (vs.length : Int)), (100, .int .i64 (vs.length : Int))]) (fun x => sl intE x.2.1 x.2.2.1 vs :: sl grE (some ⟨x.2.2.2.2.1, 0, none⟩) vs.length (List.replicate vs.length ((none, 0), [])) :: sl natE (some ⟨x.2.2.2.2.2.1, 0, none⟩) vs.length (List.replicate vs.length 0) :: sl boE (some ⟨x.2.2.2.2.2.2, 0, none⟩) vs.length (List.replicate vs.length false) :: L) (fun x => ?_) (fun H32511 => ?_)
        · obtain ⟨b91, a93, c93, b95, b97, b99, b101⟩ := x
          dsimp only
          refine JM.one (i := 8) (by kernel_rfl) ?_
          refine JMi.eff rfl rfl rfl rfl (m' := 32767) rfl (Eff.make boE false rfl rfl rfl rfl rfl (by decide) (by omega) (by omega)) ?_
          rintro _ _ ⟨b95, rfl, rfl⟩
          refine ⟨.inr (fun _ h => h.tail.tail.tail.tail.tail), ?_⟩
          have H := H32767 (b91, a93, c93, b95, b97, b99, b101)
          dsimp only at H
          refine JM.weaken ?_ ?_ H
          · exact (.cons rfl rfl (.cons rfl rfl (.cons rfl rfl (.cons rfl rfl (.cons rfl rfl (.cons rfl rfl (.cons rfl rfl (.cons rfl rfl (.cons rfl rfl (.cons rfl rfl (.cons rfl rfl (.cons rfl rfl (.cons rfl rfl (.cons rfl rfl (.cons rfl rfl (.cons rfl rfl (.cons rfl rfl (.cons rfl rfl .nil))))))))))))))))))
          · exact fun h s => SubC.out h s
        refine JM.cut (ι := Nat × Option Addr × Nat × Nat × Nat × Nat × Nat) (fuel1 := 4) (m1 := 32703) (fun x => [(91, .slice (some ⟨x.1, 0, none⟩) 0 0), (95, .slice (some ⟨x.2.2.2.1, 0, none⟩) vs.length vs.length), (97, .slice (some ⟨x.2.2.2.2.1, 0, none⟩) vs.length vs.length), (99, .slice (some ⟨x.2.2.2.2.2.1, 0, none⟩) vs.length vs.length), (101, .slice (some ⟨x.2.2.2.2.2.2, 0, none⟩) vs.length vs.length), (0, .string k), (2, .int .i64 root), (10, .int .i64 (vs.length : Int)), (87, .string k), (88, .string o), (89, .int .i64 root), (90, .int .i64 (vs.length : Int)), (92, .slice va vs.length cap), (94, .int .i64 (vs.length : Int)), (96, .int .i64 (vs.length : Int)), (98, .int .i64 (vs.length : Int)), (100, .int .i64 (vs.length : Int))]) (fun x => sl intE (some ⟨x.1, 0, none⟩) 0 [] :: sl boE (some ⟨x.2.2.2.1, 0, none⟩) vs.length (List.replicate vs.length false) :: sl grE (some ⟨x.2.2.2.2.1, 0, none⟩) vs.length (List.replicate vs.length ((none, 0), [])) :: sl natE (some ⟨x.2.2.2.2.2.1, 0, none⟩) vs.length (List.replicate vs.length 0) :: sl boE (some ⟨x.2.2.2.2.2.2, 0, none⟩) vs.length (List.replicate vs.length false) :: L) (fun x => ?_) (fun H32703 => ?_)
        · obtain ⟨b91, a93, c93, b95, b97, b99, b101⟩ := x
          dsimp only
          refine JM.one (i := 6) (by kernel_rfl) ?_
          refine JMi.eff rfl rfl rfl rfl (m' := 32767) rfl (Eff.append rfl rfl rfl rfl (by first | rfl | omega | (simp; done) | (simp; omega)) (by first | rfl | omega | (simp; done) | (simp; omega)) (by decide) (by simp; omega) (by simp; omega) (fun h => absurd h hva)) ?_
          rintro _ _ ⟨a93, c93, rfl, rfl⟩
          refine ⟨.inr (fun _ h => h.tail.tail.tail.tail.tail), ?_⟩
          refine JM.setv (u' := .slice a93 vs.length c93) 93 rfl (by simp) ?_
          rw [List.nil_append]
          have H := H32767 (b91, a93, c93, b95, b97, b99, b101)
          dsimp only at H
          refine JM.weaken ?_ ?_ H
          · exact (.cons rfl rfl (.cons rfl rfl (.cons rfl rfl (.cons rfl rfl (.cons rfl rfl (.cons rfl rfl (.cons rfl rfl (.cons rfl rfl (.cons rfl rfl (.cons rfl rfl (.cons rfl rfl (.cons rfl rfl (.cons rfl rfl (.cons rfl rfl (.cons rfl rfl (.cons rfl rfl (.cons rfl rfl (.cons rfl rfl .nil))))))))))))))))))
          · exact fun h s => SubC.out h s
        refine JM.cut (ι := Nat × Option Addr × Nat × Nat × Nat × Nat × Nat) (fuel1 := 5) (m1 := 12287) (fun x => [(91, .slice (some ⟨x.1, 0, none⟩) 0 0), (93, .slice x.2.1 vs.length x.2.2.1), (95, .slice (some ⟨x.2.2.2.1, 0, none⟩) vs.length vs.length), (97, .slice (some ⟨x.2.2.2.2.1, 0, none⟩) vs.length vs.length), (0, .string k), (2, .int .i64 root), (10, .int .i64 (vs.length : Int)), (87, .string k), (88, .string o), (89, .int .i64 root), (90, .int .i64 (vs.length : Int)), (92, .slice va vs.length cap), (94, .int .i64 (vs.length : Int)), (96, .int .i64 (vs.length : Int)), (98, .int .i64 (vs.length : Int)), (100, .int .i64 (vs.length : Int))]) (fun x => sl intE x.2.1 x.2.2.1 vs :: sl boE (some ⟨x.2.2.2.1, 0, none⟩) vs.length (List.replicate vs.length false) :: sl grE (some ⟨x.2.2.2.2.1, 0, none⟩) vs.length (List.replicate vs.length ((none, 0), [])) :: L) (fun x => ?_) (fun H12287 => ?_)
        · obtain ⟨b91, a93, c93, b95, b97, b99, b101⟩ := x
          dsimp only
          refine JM.many (rs := [12, 14]) (by kernel_rfl) rfl (fun i hi => ?_)
          simp only [List.mem_cons, List.not_mem_nil, or_false] at hi
          rcases hi with rfl | rfl
          · skip
            refine JMi.eff rfl rfl rfl rfl (m' := 16383) rfl (Eff.make natE 0 rfl rfl rfl rfl rfl (by decide) (by omega) (by omega)) ?_
            rintro _ _ ⟨b99, rfl, rfl⟩
            refine ⟨.inr (fun _ h => h.tail.tail.tail.tail), ?_⟩
            have H := H16383 (b91, a93, c93, b95, b97, b99, b101)
            dsimp only at H
            refine JM.weaken ?_ ?_ H
            · exact (.cons rfl rfl (.cons rfl rfl (.cons rfl rfl (.cons rfl rfl (.cons rfl rfl (.cons rfl rfl (.cons rfl rfl (.cons rfl rfl (.cons rfl rfl (.cons rfl rfl (.cons rfl rfl (.cons rfl rfl (.cons rfl rfl (.cons rfl rfl (.cons rfl rfl (.cons rfl rfl (.cons rfl rfl .nil)))))))))))))))))
            · exact fun h s => SubC.out h s
          · skip
            refine JMi.eff rfl rfl rfl rfl (m' := 28671) rfl (Eff.make boE false rfl rfl rfl rfl rfl (by decide) (by omega) (by omega)) ?_
            rintro _ _ ⟨b101, rfl, rfl⟩
            refine ⟨.inr (fun _ h => h.tail.tail.tail.tail), ?_⟩
            have H := H28671 (b91, a93, c93, b95, b97, b99, b101)
            dsimp only at H
            refine JM.weaken ?_ ?_ H
            · exact (.cons rfl rfl (.cons rfl rfl (.cons rfl rfl (.cons rfl rfl (.cons rfl rfl (.cons rfl rfl (.cons rfl rfl (.cons rfl rfl (.cons rfl rfl (.cons rfl rfl (.cons rfl rfl (.cons rfl rfl (.cons rfl rfl (.cons rfl rfl (.cons rfl rfl (.cons rfl rfl (.cons rfl rfl .nil)))))))))))))))))
            · exact fun h s => SubC.out h s
        refine JM.cut (ι := Nat × Option Addr × Nat × Nat × Nat × Nat × Nat) (fuel1 := 5) (m1 := 15359) (fun x => [(91, .slice (some ⟨x.1, 0, none⟩) 0 0), (93, .slice x.2.1 vs.length x.2.2.1), (95, .slice (some ⟨x.2.2.2.1, 0, none⟩) vs.length vs.length), (99, .slice (some ⟨x.2.2.2.2.2.1, 0, none⟩) vs.length vs.length), (0, .string k), (2, .int .i64 root), (10, .int .i64 (vs.length : Int)), (87, .string k), (88, .string o), (89, .int .i64 root), (90, .int .i64 (vs.length : Int)), (92, .slice va vs.length cap), (94, .int .i64 (vs.length : Int)), (96, .int .i64 (vs.length : Int)), (98, .int .i64 (vs.length : Int)), (100, .int .i64 (vs.length : Int))]) (fun x => sl intE x.2.1 x.2.2.1 vs :: sl boE (some ⟨x.2.2.2.1, 0, none⟩) vs.length (List.replicate vs.length false) :: sl natE (some ⟨x.2.2.2.2.2.1, 0, none⟩) vs.length (List.replicate vs.length 0) :: L) (fun x => ?_) (fun H15359 => ?_)
        · obtain ⟨b91, a93, c93, b95, b97, b99, b101⟩ := x
          dsimp only
          refine JM.many (rs := [10, 14]) (by kernel_rfl) rfl (fun i hi => ?_)
          simp only [List.mem_cons, List.not_mem_nil, or_false] at hi
          rcases hi with rfl | rfl
          · skip
            refine JMi.eff rfl rfl rfl rfl (m' := 16383) rfl (Eff.make grE ((none, 0), []) rfl rfl rfl rfl rfl (by decide) (by omega) (by omega)) ?_
            rintro _ _ ⟨b97, rfl, rfl⟩
            refine ⟨.inr (fun _ h => h.tail.tail.tail.tail), ?_⟩
            have H := H16383 (b91, a93, c93, b95, b97, b99, b101)
            dsimp only at H
            refine JM.weaken ?_ ?_ H
            · exact (.cons rfl rfl (.cons rfl rfl (.cons rfl rfl (.cons rfl rfl (.cons rfl rfl (.cons rfl rfl (.cons rfl rfl (.cons rfl rfl (.cons rfl rfl (.cons rfl rfl (.cons rfl rfl (.cons rfl rfl (.cons rfl rfl (.cons rfl rfl (.cons rfl rfl (.cons rfl rfl (.cons rfl rfl .nil)))))))))))))))))
            · exact fun h s => SubC.out h s
          · skip
            refine JMi.eff rfl rfl rfl rfl (m' := 31743) rfl (Eff.make boE false rfl rfl rfl rfl rfl (by decide) (by omega) (by omega)) ?_
            rintro _ _ ⟨b101, rfl, rfl⟩
            refine ⟨.inr (fun _ h => h.tail.tail.tail.tail), ?_⟩
            have H := H31743 (b91, a93, c93, b95, b97, b99, b101)
            dsimp only at H
            refine JM.weaken ?_ ?_ H
            · exact (.cons rfl rfl (.cons rfl rfl (.cons rfl rfl (.cons rfl rfl (.cons rfl rfl (.cons rfl rfl (.cons rfl rfl (.cons rfl rfl (.cons rfl rfl (.cons rfl rfl (.cons rfl rfl (.cons rfl rfl (.cons rfl rfl (.cons rfl rfl (.cons rfl rfl (.cons rfl rfl (.cons rfl rfl .nil)))))))))))))))))
            · exact fun h s => SubC.out h s
        refine JM.cut (ι := Nat × Option Addr × Nat × Nat × Nat × Nat × Nat) (fuel1 := 5) (m1 := 27647) (fun x => [(91, .slice (some ⟨x.1, 0, none⟩) 0 0), (93, .slice x.2.1 vs.length x.2.2.1), (95, .slice (some ⟨x.2.2.2.1, 0, none⟩) vs.length vs.length), (101, .slice (some ⟨x.2.2.2.2.2.2, 0, none⟩) vs.length vs.length), (0, .string k), (2, .int .i64 root), (10, .int .i64 (vs.length : Int)), (87, .string k), (88, .string o), (89, .int .i64 root), (90, .int .i64 (vs.length : Int)), (92, .slice va vs.length cap), (94, .int .i64 (vs.length : Int)), (96, .int .i64 (vs.length : Int)), (98, .int .i64 (vs.length : Int)), (100, .int .i64 (vs.length : Int))]) (fun x => sl intE x.2.1 x.2.2.1 vs :: sl boE (some ⟨x.2.2.2.1, 0, none⟩) vs.length (List.replicate vs.length false) :: sl boE (some ⟨x.2.2.2.2.2.2, 0, none⟩) vs.length (List.replicate vs.length false) :: L) (fun x => ?_) (fun H27647 => ?_)
        · obtain ⟨b91, a93, c93, b95, b97, b99, b101⟩ := x
          dsimp only
          refine JM.many (rs := [10, 12]) (by kernel_rfl) rfl (fun i hi => ?_)
          simp only [List.mem_cons, List.not_mem_nil, or_false] at hi
          rcases hi with rfl | rfl
          · skip
            refine JMi.eff rfl rfl rfl rfl (m' := 28671) rfl (Eff.make grE ((none, 0), []) rfl rfl rfl rfl rfl (by decide) (by omega) (by omega)) ?_
            rintro _ _ ⟨b97, rfl, rfl⟩
            refine ⟨.inr (fun _ h => h.tail.tail.tail.tail), ?_⟩
            have H := H28671 (b91, a93, c93, b95, b97, b99, b101)
            dsimp only at H
            refine JM.weaken ?_ ?_ H
            · exact (.cons rfl rfl (.cons rfl rfl (.cons rfl rfl (.cons rfl rfl (.cons rfl rfl (.cons rfl rfl (.cons rfl rfl (.cons rfl rfl (.cons rfl rfl (.cons rfl rfl (.cons rfl rfl (.cons rfl rfl (.cons rfl rfl (.cons rfl rfl (.cons rfl rfl (.cons rfl rfl (.cons rfl rfl .nil)))))))))))))))))
            · exact fun h s => SubC.out h s
          · skip
            refine JMi.eff rfl rfl rfl rfl (m' := 31743) rfl (Eff.make natE 0 rfl rfl rfl rfl rfl (by decide) (by omega) (by omega)) ?_
            rintro _ _ ⟨b99, rfl, rfl⟩
            refine ⟨.inr (fun _ h => h.tail.tail.tail.tail), ?_⟩
            have H := H31743 (b91, a93, c93, b95, b97, b99, b101)
            dsimp only at H
            refine JM.weaken ?_ ?_ H
            · exact (.cons rfl rfl (.cons rfl rfl (.cons rfl rfl (.cons rfl rfl (.cons rfl rfl (.cons rfl rfl (.cons rfl rfl (.cons rfl rfl (.cons rfl rfl (.cons rfl rfl (.cons rfl rfl (.cons rfl rfl (.cons rfl rfl (.cons rfl rfl (.cons rfl rfl (.cons rfl rfl (.cons rfl rfl .nil)))))))))))))))))
            · exact fun h s => SubC.out h s
        refine JM.cut (ι := Nat × Option Addr × Nat × Nat × Nat × Nat × Nat) (fuel1 := 5) (m1 := 16127) (fun x => [(91, .slice (some ⟨x.1, 0, none⟩) 0 0), (93, .slice x.2.1 vs.length x.2.2.1), (97, .slice (some ⟨x.2.2.2.2.1, 0, none⟩) vs.length vs.length), (99, .slice (some ⟨x.2.2.2.2.2.1, 0, none⟩) vs.length vs.length), (0, .string k), (2, .int .i64 root), (10, .int .i64 (vs.length : Int)), (87, .string k), (88, .string o), (89, .int .i64 root), (90, .int .i64 (vs.length : Int)), (92, .slice va vs.length cap), (94, .int .i64 (vs.length : Int)), (96, .int .i64 (vs.length : Int)), (98, .int .i64 (vs.length : Int)), (100, .int .i64 (vs.length : Int))]) (fun x => sl intE x.2.1 x.2.2.1 vs :: sl grE (some ⟨x.2.2.2.2.1, 0, none⟩) vs.length (List.replicate vs.length ((none, 0), [])) :: sl natE (some ⟨x.2.2.2.2.2.1, 0, none⟩) vs.length (List.replicate vs.length 0) :: L) (fun x => ?_) (fun H16127 => ?_)
        · obtain ⟨b91, a93, c93, b95, b97, b99, b101⟩ := x
          dsimp only
          refine JM.many (rs := [8, 14]) (by kernel_rfl) rfl (fun i hi => ?_)
          simp only [List.mem_cons, List.not_mem_nil, or_false] at hi
          rcases hi with rfl | rfl
          · skip
            refine JMi.eff rfl rfl rfl rfl (m' := 16383) rfl (Eff.make boE false rfl rfl rfl rfl rfl (by decide) (by omega) (by omega)) ?_
            rintro _ _ ⟨b95, rfl, rfl⟩
            refine ⟨.inr (fun _ h => h.tail.tail.tail.tail), ?_⟩
            have H := H16383 (b91, a93, c93, b95, b97, b99, b101)
            dsimp only at H
            refine JM.weaken ?_ ?_ H
            · exact (.cons rfl rfl (.cons rfl rfl (.cons rfl rfl (.cons rfl rfl (.cons rfl rfl (.cons rfl rfl (.cons rfl rfl (.cons rfl rfl (.cons rfl rfl (.cons rfl rfl (.cons rfl rfl (.cons rfl rfl (.cons rfl rfl (.cons rfl rfl (.cons rfl rfl (.cons rfl rfl (.cons rfl rfl .nil)))))))))))))))))
            · exact fun h s => SubC.out h s
          · skip
            refine JMi.eff rfl rfl rfl rfl (m' := 32511) rfl (Eff.make boE false rfl rfl rfl rfl rfl (by decide) (by omega) (by omega)) ?_
            rintro _ _ ⟨b101, rfl, rfl⟩
            refine ⟨.inr (fun _ h => h.tail.tail.tail.tail), ?_⟩
            have H := H32511 (b91, a93, c93, b95, b97, b99, b101)
            dsimp only at H
            refine JM.weaken ?_ ?_ H
            · exact (.cons rfl rfl (.cons rfl rfl (.cons rfl rfl (.cons rfl rfl (.cons rfl rfl (.cons rfl rfl (.cons rfl rfl (.cons rfl rfl (.cons rfl rfl (.cons rfl rfl (.cons rfl rfl (.cons rfl rfl (.cons rfl rfl (.cons rfl rfl (.cons rfl rfl (.cons rfl rfl (.cons rfl rfl .nil)))))))))))))))))
            · exact fun h s => SubC.out h s
        refine JM.cut (ι := Nat × Option Addr × Nat × Nat × Nat × Nat × Nat) (fuel1 := 5) (m1 := 28415) (fun x => [(91, .slice (some ⟨x.1, 0, none⟩) 0 0), (93, .slice x.2.1 vs.length x.2.2.1), (97, .slice (some ⟨x.2.2.2.2.1, 0, none⟩) vs.length vs.length), (101, .slice (some ⟨x.2.2.2.2.2.2, 0, none⟩) vs.length vs.length), (0, .string k), (2, .int .i64 root), (10, .int .i64 (vs.length : Int)), (87, .string k), (88, .string o), (89, .int .i64 root), (90, .int .i64 (vs.length : Int)), (92, .slice va vs.length cap), (94, .int .i64 (vs.length : Int)), (96, .int .i64 (vs.length : Int)), (98, .int .i64 (vs.length : Int)), (100, .int .i64 (vs.length : Int))]) (fun x => sl intE x.2.1 x.2.2.1 vs :: sl grE (some ⟨x.2.2.2.2.1, 0, none⟩) vs.length (List.replicate vs.length ((none, 0), [])) :: sl boE (some ⟨x.2.2.2.2.2.2, 0, none⟩) vs.length (List.replicate vs.length false) :: L) (fun x => ?_) (fun H28415 => ?_)
        · obtain ⟨b91, a93, c93, b95, b97, b99, b101⟩ := x
          dsimp only
          refine JM.many (rs := [8, 12]) (by kernel_rfl) rfl (fun i hi => ?_)
          simp only [List.mem_cons, List.not_mem_nil, or_false] at hi
          rcases hi with rfl | rfl
          · skip
            refine JMi.eff rfl rfl rfl rfl (m' := 28671) rfl (Eff.make boE false rfl rfl rfl rfl rfl (by decide) (by omega) (by omega)) ?_
            rintro _ _ ⟨b95, rfl, rfl⟩
            refine ⟨.inr (fun _ h => h.tail.tail.tail.tail), ?_⟩
            have H := H28671 (b91, a93, c93, b95, b97, b99, b101)
            dsimp only at H
            refine JM.weaken ?_ ?_ H
            · exact (.cons rfl rfl (.cons rfl rfl (.cons rfl rfl (.cons rfl rfl (.cons rfl rfl (.cons rfl rfl (.cons rfl rfl (.cons rfl rfl (.cons rfl rfl (.cons rfl rfl (.cons rfl rfl (.cons rfl rfl (.cons rfl rfl (.cons rfl rfl (.cons rfl rfl (.cons rfl rfl (.cons rfl rfl .nil)))))))))))))))))
            · exact fun h s => SubC.out h s
          · skip
            refine JMi.eff rfl rfl rfl rfl (m' := 32511) rfl (Eff.make natE 0 rfl rfl rfl rfl rfl (by decide) (by omega) (by omega)) ?_
            rintro _ _ ⟨b99, rfl, rfl⟩
            refine ⟨.inr (fun _ h => h.tail.tail.tail.tail), ?_⟩
            have H := H32511 (b91, a93, c93, b95, b97, b99, b101)
            dsimp only at H
            refine JM.weaken ?_ ?_ H
            · exact (.cons rfl rfl (.cons rfl rfl (.cons rfl rfl (.cons rfl rfl (.cons rfl rfl (.cons rfl rfl (.cons rfl rfl (.cons rfl rfl (.cons rfl rfl (.cons rfl rfl (.cons rfl rfl (.cons rfl rfl (.cons rfl rfl (.cons rfl rfl (.cons rfl rfl (.cons rfl rfl (.cons rfl rfl .nil)))))))))))))))))
            · exact fun h s => SubC.out h s
        refine JM.cut (ι := Nat × Option Addr × Nat × Nat × Nat × Nat × Nat) (fuel1 := 5) (m1 := 31487) (fun x => [(91, .slice (some ⟨x.1, 0, none⟩) 0 0), (93, .slice x.2.1 vs.length x.2.2.1), (99, .slice (some ⟨x.2.2.2.2.2.1, 0, none⟩) vs.length vs.length), (101, .slice (some ⟨x.2.2.2.2.2.2, 0, none⟩) vs.length vs.length), (0, .string k), (2, .int .i64 root), (10, .int .i64 (vs.length : Int)), (87, .string k), (88, .string o), (89, .int .i64 root), (90, .int .i64 (vs.length : Int)), (92, .slice va vs.length cap), (94, .int .i64 (vs.length : Int)), (96, .int .i64 (vs.length : Int)), (98, .int .i64 (vs.length : Int)), (100, .int .i64 (vs.length : Int))]) (fun x => sl intE x.2.1 x.2.2.1 vs :: sl natE (some ⟨x.2.2.2.2.2.1, 0, none⟩) vs.length (List.replicate vs.length 0) :: sl boE (some ⟨x.2.2.2.2.2.2, 0, none⟩) vs.length (List.replicate vs.length false) :: L) (fun x => ?_) (fun H31487 => ?_)
        · obtain ⟨b91, a93, c93, b95, b97, b99, b101⟩ := x
          dsimp only
          refine JM.many (rs := [8, 10]) (by kernel_rfl) rfl (fun i hi => ?_)
          simp only [List.mem_cons, List.not_mem_nil, or_false] at hi
          rcases hi with rfl | rfl
          · skip
            refine JMi.eff rfl rfl rfl rfl (m' := 31743) rfl (Eff.make boE false rfl rfl rfl rfl rfl (by decide) (by omega) (by omega)) ?_
            rintro _ _ ⟨b95, rfl, rfl⟩
            refine ⟨.inr (fun _ h => h.tail.tail.tail.tail), ?_⟩
            have H := H31743 (b91, a93, c93, b95, b97, b99, b101)
            dsimp only at H
            refine JM.weaken ?_ ?_ H
            · exact (.cons rfl rfl (.cons rfl rfl (.cons rfl rfl (.cons rfl rfl (.cons rfl rfl (.cons rfl rfl (.cons rfl rfl (.cons rfl rfl (.cons rfl rfl (.cons rfl rfl (.cons rfl rfl (.cons rfl rfl (.cons rfl rfl (.cons rfl rfl (.cons rfl rfl (.cons rfl rfl (.cons rfl rfl .nil)))))))))))))))))
            · exact fun h s => SubC.out h s
          · skip
            refine JMi.eff rfl rfl rfl rfl (m' := 32511) rfl (Eff.make grE ((none, 0), []) rfl rfl rfl rfl rfl (by decide) (by omega) (by omega)) ?_
            rintro _ _ ⟨b97, rfl, rfl⟩
            refine ⟨.inr (fun _ h => h.tail.tail.tail.tail), ?_⟩
            have H := H32511 (b91, a93, c93, b95, b97, b99, b101)
            dsimp only at H
            refine JM.weaken ?_ ?_ H
            · exact (.cons rfl rfl (.cons rfl rfl (.cons rfl rfl (.cons rfl rfl (.cons rfl rfl (.cons rfl rfl (.cons rfl rfl (.cons rfl rfl (.cons rfl rfl (.cons rfl rfl (.cons rfl rfl (.cons rfl rfl (.cons rfl rfl (.cons rfl rfl (.cons rfl rfl (.cons rfl rfl (.cons rfl rfl .nil)))))))))))))))))
            · exact fun h s => SubC.out h s
        refine JM.cut (ι := Nat × Option Addr × Nat × Nat × Nat × Nat × Nat) (fuel1 := 5) (m1 := 16319) (fun x => [(91, .slice (some ⟨x.1, 0, none⟩) 0 0), (95, .slice (some ⟨x.2.2.2.1, 0, none⟩) vs.length vs.length), (97, .slice (some ⟨x.2.2.2.2.1, 0, none⟩) vs.length vs.length), (99, .slice (some ⟨x.2.2.2.2.2.1, 0, none⟩) vs.length vs.length), (0, .string k), (2, .int .i64 root), (10, .int .i64 (vs.length : Int)), (87, .string k), (88, .string o), (89, .int .i64 root), (90, .int .i64 (vs.length : Int)), (92, .slice va vs.length cap), (94, .int .i64 (vs.length : Int)), (96, .int .i64 (vs.length : Int)), (98, .int .i64 (vs.length : Int)), (100, .int .i64 (vs.length : Int))]) (fun x => sl intE (some ⟨x.1, 0, none⟩) 0 [] :: sl boE (some ⟨x.2.2.2.1, 0, none⟩) vs.length (List.replicate vs.length false) :: sl grE (some ⟨x.2.2.2.2.1, 0, none⟩) vs.length (List.replicate vs.length ((none, 0), [])) :: sl natE (some ⟨x.2.2.2.2.2.1, 0, none⟩) vs.length (List.replicate vs.length 0) :: L) (fun x => ?_) (fun H16319 => ?_)
        · obtain ⟨b91, a93, c93, b95, b97, b99, b101⟩ := x
          dsimp only
          refine JM.many (rs := [6, 14]) (by kernel_rfl) rfl (fun i hi => ?_)
          simp only [List.mem_cons, List.not_mem_nil, or_false] at hi
          rcases hi with rfl | rfl
          · skip
            refine JMi.eff rfl rfl rfl rfl (m' := 16383) rfl (Eff.append rfl rfl rfl rfl (by first | rfl | omega | (simp; done) | (simp; omega)) (by first | rfl | omega | (simp; done) | (simp; omega)) (by decide) (by simp; omega) (by simp; omega) (fun h => absurd h hva)) ?_
            rintro _ _ ⟨a93, c93, rfl, rfl⟩
            refine ⟨.inr (fun _ h => h.tail.tail.tail.tail), ?_⟩
            refine JM.setv (u' := .slice a93 vs.length c93) 93 rfl (by simp) ?_
            rw [List.nil_append]
            have H := H16383 (b91, a93, c93, b95, b97, b99, b101)
            dsimp only at H
            refine JM.weaken ?_ ?_ H
            · exact (.cons rfl rfl (.cons rfl rfl (.cons rfl rfl (.cons rfl rfl (.cons rfl rfl (.cons rfl rfl (.cons rfl rfl (.cons rfl rfl (.cons rfl rfl (.cons rfl rfl (.cons rfl rfl (.cons rfl rfl (.cons rfl rfl (.cons rfl rfl (.cons rfl rfl (.cons rfl rfl (.cons rfl rfl .nil)))))))))))))))))
            · exact fun h s => SubC.out h s
          · skip
            refine JMi.eff rfl rfl rfl rfl (m' := 32703) rfl (Eff.make boE false rfl rfl rfl rfl rfl (by decide) (by omega) (by omega)) ?_
            rintro _ _ ⟨b101, rfl, rfl⟩
            refine ⟨.inr (fun _ h => h.tail.tail.tail.tail.tail), ?_⟩
            have H := H32703 (b91, a93, c93, b95, b97, b99, b101)
            dsimp only at H
            refine JM.weaken ?_ ?_ H
            · exact (.cons rfl rfl (.cons rfl rfl (.cons rfl rfl (.cons rfl rfl (.cons rfl rfl (.cons rfl rfl (.cons rfl rfl (.cons rfl rfl (.cons rfl rfl (.cons rfl rfl (.cons rfl rfl (.cons rfl rfl (.cons rfl rfl (.cons rfl rfl (.cons rfl rfl (.cons rfl rfl (.cons rfl rfl .nil)))))))))))))))))
            · exact fun h s => SubC.out h s
        refine JM.cut (ι := Nat × Option Addr × Nat × Nat × Nat × Nat × Nat) (fuel1 := 5) (m1 := 28607) (fun x => [(91, .slice (some ⟨x.1, 0, none⟩) 0 0), (95, .slice (some ⟨x.2.2.2.1, 0, none⟩) vs.length vs.length), (97, .slice (some ⟨x.2.2.2.2.1, 0, none⟩) vs.length vs.length), (101, .slice (some ⟨x.2.2.2.2.2.2, 0, none⟩) vs.length vs.length), (0, .string k), (2, .int .i64 root), (10, .int .i64 (vs.length : Int)), (87, .string k), (88, .string o), (89, .int .i64 root), (90, .int .i64 (vs.length : Int)), (92, .slice va vs.length cap), (94, .int .i64 (vs.length : Int)), (96, .int .i64 (vs.length : Int)), (98, .int .i64 (vs.length : Int)), (100, .int .i64 (vs.length : Int))]) (fun x => sl intE (some ⟨x.1, 0, none⟩) 0 [] :: sl boE (some ⟨x.2.2.2.1, 0, none⟩) vs.length (List.replicate vs.length false) :: sl grE (some ⟨x.2.2.2.2.1, 0, none⟩) vs.length (List.replicate vs.length ((none, 0), [])) :: sl boE (some ⟨x.2.2.2.2.2.2, 0, none⟩) vs.length (List.replicate vs.length false) :: L) (fun x => ?_) (fun H28607 => ?_)
        · obtain ⟨b91, a93, c93, b95, b97, b99, b101⟩ := x
          dsimp only
          refine JM.many (rs := [6, 12]) (by kernel_rfl) rfl (fun i hi => ?_)
          simp only [List.mem_cons, List.not_mem_nil, or_false] at hi
          rcases hi with rfl | rfl
          · skip
            refine JMi.eff rfl rfl rfl rfl (m' := 28671) rfl (Eff.append rfl rfl rfl rfl (by first | rfl | omega | (simp; done) | (simp; omega)) (by first | rfl | omega | (simp; done) | (simp; omega)) (by decide) (by simp; omega) (by simp; omega) (fun h => absurd h hva)) ?_
            rintro _ _ ⟨a93, c93, rfl, rfl⟩
            refine ⟨.inr (fun _ h => h.tail.tail.tail.tail), ?_⟩
            refine JM.setv (u' := .slice a93 vs.length c93) 93 rfl (by simp) ?_
            rw [List.nil_append]
            have H := H28671 (b91, a93, c93, b95, b97, b99, b101)
            dsimp only at H
            refine JM.weaken ?_ ?_ H
            · exact (.cons rfl rfl (.cons rfl rfl (.cons rfl rfl (.cons rfl rfl (.cons rfl rfl (.cons rfl rfl (.cons rfl rfl (.cons rfl rfl (.cons rfl rfl (.cons rfl rfl (.cons rfl rfl (.cons rfl rfl (.cons rfl rfl (.cons rfl rfl (.cons rfl rfl (.cons rfl rfl (.cons rfl rfl .nil)))))))))))))))))
            · exact fun h s => SubC.out h s
          · skip
            refine JMi.eff rfl rfl rfl rfl (m' := 32703) rfl (Eff.make natE 0 rfl rfl rfl rfl rfl (by decide) (by omega) (by omega)) ?_
            rintro _ _ ⟨b99, rfl, rfl⟩
            refine ⟨.inr (fun _ h => h.tail.tail.tail.tail.tail), ?_⟩
            have H := H32703 (b91, a93, c93, b95, b97, b99, b101)
            dsimp only at H
            refine JM.weaken ?_ ?_ H
            · exact (.cons rfl rfl (.cons rfl rfl (.cons rfl rfl (.cons rfl rfl (.cons rfl rfl (.cons rfl rfl (.cons rfl rfl (.cons rfl rfl (.cons rfl rfl (.cons rfl rfl (.cons rfl rfl (.cons rfl rfl (.cons rfl rfl (.cons rfl rfl (.cons rfl rfl (.cons rfl rfl (.cons rfl rfl .nil)))))))))))))))))
            · exact fun h s => SubC.out h s
        refine JM.cut (ι := Nat × Option Addr × Nat × Nat × Nat × Nat × Nat) (fuel1 := 5) (m1 := 31679) (fun x => [(91, .slice (some ⟨x.1, 0, none⟩) 0 0), (95, .slice (some ⟨x.2.2.2.1, 0, none⟩) vs.length vs.length), (99, .slice (some ⟨x.2.2.2.2.2.1, 0, none⟩) vs.length vs.length), (101, .slice (some ⟨x.2.2.2.2.2.2, 0, none⟩) vs.length vs.length), (0, .string k), (2, .int .i64 root), (10, .int .i64 (vs.length : Int)), (87, .string k), (88, .string o), (89, .int .i64 root), (90, .int .i64 (vs.length : Int)), (92, .slice va vs.length cap), (94, .int .i64 (vs.length : Int)), (96, .int .i64 (vs.length : Int)), (98, .int .i64 (vs.length : Int)), (100, .int .i64 (vs.length : Int))]) (fun x => sl intE (some ⟨x.1, 0, none⟩) 0 [] :: sl boE (some ⟨x.2.2.2.1, 0, none⟩) vs.length (List.replicate vs.length false) :: sl natE (some ⟨x.2.2.2.2.2.1, 0, none⟩) vs.length (List.replicate vs.length 0) :: sl boE (some ⟨x.2.2.2.2.2.2, 0, none⟩) vs.length (List.replicate vs.length false) :: L) (fun x => ?_) (fun H31679 => ?_)
        · obtain ⟨b91, a93, c93, b95, b97, b99, b101⟩ := x
          dsimp only
          refine JM.many (rs := [6, 10]) (by kernel_rfl) rfl (fun i hi => ?_)
          simp only [List.mem_cons, List.not_mem_nil, or_false] at hi
          rcases hi with rfl | rfl
          · skip
            refine JMi.eff rfl rfl rfl rfl (m' := 31743) rfl (Eff.append rfl rfl rfl rfl (by first | rfl | omega | (simp; done) | (simp; omega)) (by first | rfl | omega | (simp; done) | (simp; omega)) (by decide) (by simp; omega) (by simp; omega) (fun h => absurd h hva)) ?_
            rintro _ _ ⟨a93, c93, rfl, rfl⟩
            refine ⟨.inr (fun _ h => h.tail.tail.tail.tail), ?_⟩
            refine JM.setv (u' := .slice a93 vs.length c93) 93 rfl (by simp) ?_
            rw [List.nil_append]
            have H := H31743 (b91, a93, c93, b95, b97, b99, b101)
            dsimp only at H
            refine JM.weaken ?_ ?_ H
            · exact (.cons rfl rfl (.cons rfl rfl (.cons rfl rfl (.cons rfl rfl (.cons rfl rfl (.cons rfl rfl (.cons rfl rfl (.cons rfl rfl (.cons rfl rfl (.cons rfl rfl (.cons rfl rfl (.cons rfl rfl (.cons rfl rfl (.cons rfl rfl (.cons rfl rfl (.cons rfl rfl (.cons rfl rfl .nil)))))))))))))))))
            · exact fun h s => SubC.out h s
          · skip
            refine JMi.eff rfl rfl rfl rfl (m' := 32703) rfl (Eff.make grE ((none, 0), []) rfl rfl rfl rfl rfl (by decide) (by omega) (by omega)) ?_
            rintro _ _ ⟨b97, rfl, rfl⟩
            refine ⟨.inr (fun _ h => h.tail.tail.tail.tail.tail), ?_⟩
            have H := H32703 (b91, a93, c93, b95, b97, b99, b101)
            dsimp only at H
            refine JM.weaken ?_ ?_ H
            · exact (.cons rfl rfl (.cons rfl rfl (.cons rfl rfl (.cons rfl rfl (.cons rfl rfl (.cons rfl rfl (.cons rfl rfl (.cons rfl rfl (.cons rfl rfl (.cons rfl rfl (.cons rfl rfl (.cons rfl rfl (.cons rfl rfl (.cons rfl rfl (.cons rfl rfl (.cons rfl rfl (.cons rfl rfl .nil)))))))))))))))))
            · exact fun h s => SubC.out h s
        refine JM.cut (ι := Nat × Option Addr × Nat × Nat × Nat × Nat × Nat) (fuel1 := 5) (m1 := 32447) (fun x => [(91, .slice (some ⟨x.1, 0, none⟩) 0 0), (97, .slice (some ⟨x.2.2.2.2.1, 0, none⟩) vs.length vs.length), (99, .slice (some ⟨x.2.2.2.2.2.1, 0, none⟩) vs.length vs.length), (101, .slice (some ⟨x.2.2.2.2.2.2, 0, none⟩) vs.length vs.length), (0, .string k), (2, .int .i64 root), (10, .int .i64 (vs.length : Int)), (87, .string k), (88, .string o), (89, .int .i64 root), (90, .int .i64 (vs.length : Int)), (92, .slice va vs.length cap), (94, .int .i64 (vs.length : Int)), (96, .int .i64 (vs.length : Int)), (98, .int .i64 (vs.length : Int)), (100, .int .i64 (vs.length : Int))]) (fun x => sl intE (some ⟨x.1, 0, none⟩) 0 [] :: sl grE (some ⟨x.2.2.2.2.1, 0, none⟩) vs.length (List.replicate vs.length ((none, 0), [])) :: sl natE (some ⟨x.2.2.2.2.2.1, 0, none⟩) vs.length (List.replicate vs.length 0) :: sl boE (some ⟨x.2.2.2.2.2.2, 0, none⟩) vs.length (List.replicate vs.length false) :: L) (fun x => ?_) (fun H32447 => ?_)
        · obtain ⟨b91, a93, c93, b95, b97, b99, b101⟩ := x
          dsimp only
          refine JM.many (rs := [6, 8]) (by kernel_rfl) rfl (fun i hi => ?_)
          simp only [List.mem_cons, List.not_mem_nil, or_false] at hi
          rcases hi with rfl | rfl
          · skip
            refine JMi.eff rfl rfl rfl rfl (m' := 32511) rfl (Eff.append rfl rfl rfl rfl (by first | rfl | omega | (simp; done) | (simp; omega)) (by first | rfl | omega | (simp; done) | (simp; omega)) (by decide) (by simp; omega) (by simp; omega) (fun h => absurd h hva)) ?_
            rintro _ _ ⟨a93, c93, rfl, rfl⟩
            refine ⟨.inr (fun _ h => h.tail.tail.tail.tail), ?_⟩
            refine JM.setv (u' := .slice a93 vs.length c93) 93 rfl (by simp) ?_
            rw [List.nil_append]
            have H := H32511 (b91, a93, c93, b95, b97, b99, b101)
            dsimp only at H
            refine JM.weaken ?_ ?_ H
            · exact (.cons rfl rfl (.cons rfl rfl (.cons rfl rfl (.cons rfl rfl (.cons rfl rfl (.cons rfl rfl (.cons rfl rfl (.cons rfl rfl (.cons rfl rfl (.cons rfl rfl (.cons rfl rfl (.cons rfl rfl (.cons rfl rfl (.cons rfl rfl (.cons rfl rfl (.cons rfl rfl (.cons rfl rfl .nil)))))))))))))))))
            · exact fun h s => SubC.out h s
          · skip
            refine JMi.eff rfl rfl rfl rfl (m' := 32703) rfl (Eff.make boE false rfl rfl rfl rfl rfl (by decide) (by omega) (by omega)) ?_
            rintro _ _ ⟨b95, rfl, rfl⟩
            refine ⟨.inr (fun _ h => h.tail.tail.tail.tail.tail), ?_⟩
            have H := H32703 (b91, a93, c93, b95, b97, b99, b101)
            dsimp only at H
            refine JM.weaken ?_ ?_ H
            · exact (.cons rfl rfl (.cons rfl rfl (.cons rfl rfl (.cons rfl rfl (.cons rfl rfl (.cons rfl rfl (.cons rfl rfl (.cons rfl rfl (.cons rfl rfl (.cons rfl rfl (.cons rfl rfl (.cons rfl rfl (.cons rfl rfl (.cons rfl rfl (.cons rfl rfl (.cons rfl rfl (.cons rfl rfl .nil)))))))))))))))))
            · exact fun h s => SubC.out h s
        refine JM.cut (ι := Nat × Option Addr × Nat × Nat × Nat × Nat × Nat) (fuel1 := 5) (m1 := 32687) (fun x => [(95, .slice (some ⟨x.2.2.2.1, 0, none⟩) vs.length vs.length), (97, .slice (some ⟨x.2.2.2.2.1, 0, none⟩) vs.length vs.length), (99, .slice (some ⟨x.2.2.2.2.2.1, 0, none⟩) vs.length vs.length), (101, .slice (some ⟨x.2.2.2.2.2.2, 0, none⟩) vs.length vs.length), (0, .string k), (2, .int .i64 root), (10, .int .i64 (vs.length : Int)), (87, .string k), (88, .string o), (89, .int .i64 root), (90, .int .i64 (vs.length : Int)), (92, .slice va vs.length cap), (94, .int .i64 (vs.length : Int)), (96, .int .i64 (vs.length : Int)), (98, .int .i64 (vs.length : Int)), (100, .int .i64 (vs.length : Int))]) (fun x => sl boE (some ⟨x.2.2.2.1, 0, none⟩) vs.length (List.replicate vs.length false) :: sl grE (some ⟨x.2.2.2.2.1, 0, none⟩) vs.length (List.replicate vs.length ((none, 0), [])) :: sl natE (some ⟨x.2.2.2.2.2.1, 0, none⟩) vs.length (List.replicate vs.length 0) :: sl boE (some ⟨x.2.2.2.2.2.2, 0, none⟩) vs.length (List.replicate vs.length false) :: L) (fun x => ?_) (fun H32687 => ?_)
        · obtain ⟨b91, a93, c93, b95, b97, b99, b101⟩ := x
          dsimp only
          refine JM.one (i := 4) (by kernel_rfl) ?_
          refine JMi.eff rfl rfl rfl rfl (m' := 32703) rfl (Eff.buildSlice intE [] rfl rfl rfl rfl rfl rfl rfl) ?_
          rintro _ _ ⟨b91, rfl, -, rfl⟩
          refine ⟨.inr (fun _ h => h.tail.tail.tail.tail.tail), ?_⟩
          have H := H32703 (b91, a93, c93, b95, b97, b99, b101)
          dsimp only at H
          refine JM.weaken ?_ ?_ H
          · exact (.cons rfl rfl (.cons rfl rfl (.cons rfl rfl (.cons rfl rfl (.cons rfl rfl (.cons rfl rfl (.cons rfl rfl (.cons rfl rfl (.cons rfl rfl (.cons rfl rfl (.cons rfl rfl (.cons rfl rfl (.cons rfl rfl (.cons rfl rfl (.cons rfl rfl (.cons rfl rfl (.cons rfl rfl .nil)))))))))))))))))
          · exact fun h s => SubC.out h s
        refine JM.cut (ι := Nat × Option Addr × Nat × Nat × Nat × Nat × Nat) (fuel1 := 6) (m1 := 11263) (fun x => [(91, .slice (some ⟨x.1, 0, none⟩) 0 0), (93, .slice x.2.1 vs.length x.2.2.1), (95, .slice (some ⟨x.2.2.2.1, 0, none⟩) vs.length vs.length), (0, .string k), (2, .int .i64 root), (10, .int .i64 (vs.length : Int)), (87, .string k), (88, .string o), (89, .int .i64 root), (90, .int .i64 (vs.length : Int)), (92, .slice va vs.length cap), (94, .int .i64 (vs.length : Int)), (96, .int .i64 (vs.length : Int)), (98, .int .i64 (vs.length : Int)), (100, .int .i64 (vs.length : Int))]) (fun x => sl intE x.2.1 x.2.2.1 vs :: sl boE (some ⟨x.2.2.2.1, 0, none⟩) vs.length (List.replicate vs.length false) :: L) (fun x => ?_) (fun H11263 => ?_)
        · obtain ⟨b91, a93, c93, b95, b97, b99, b101⟩ := x
          dsimp only
          refine JM.many (rs := [10, 12, 14]) (by kernel_rfl) rfl (fun i hi => ?_)
          simp only [List.mem_cons, List.not_mem_nil, or_false] at hi
          rcases hi with rfl | rfl | rfl
          · skip
            refine JMi.eff rfl rfl rfl rfl (m' := 12287) rfl (Eff.make grE ((none, 0), []) rfl rfl rfl rfl rfl (by decide) (by omega) (by omega)) ?_
            rintro _ _ ⟨b97, rfl, rfl⟩
            refine ⟨.inr (fun _ h => h.tail.tail.tail), ?_⟩
            have H := H12287 (b91, a93, c93, b95, b97, b99, b101)
            dsimp only at H
            refine JM.weaken ?_ ?_ H
            · exact (.cons rfl rfl (.cons rfl rfl (.cons rfl rfl (.cons rfl rfl (.cons rfl rfl (.cons rfl rfl (.cons rfl rfl (.cons rfl rfl (.cons rfl rfl (.cons rfl rfl (.cons rfl rfl (.cons rfl rfl (.cons rfl rfl (.cons rfl rfl (.cons rfl rfl (.cons rfl rfl .nil))))))))))))))))
            · exact fun h s => SubC.out h s
          · skip
            refine JMi.eff rfl rfl rfl rfl (m' := 15359) rfl (Eff.make natE 0 rfl rfl rfl rfl rfl (by decide) (by omega) (by omega)) ?_
            rintro _ _ ⟨b99, rfl, rfl⟩
            refine ⟨.inr (fun _ h => h.tail.tail.tail), ?_⟩
            have H := H15359 (b91, a93, c93, b95, b97, b99, b101)
            dsimp only at H
            refine JM.weaken ?_ ?_ H
            · exact (.cons rfl rfl (.cons rfl rfl (.cons rfl rfl (.cons rfl rfl (.cons rfl rfl (.cons rfl rfl (.cons rfl rfl (.cons rfl rfl (.cons rfl rfl (.cons rfl rfl (.cons rfl rfl (.cons rfl rfl (.cons rfl rfl (.cons rfl rfl (.cons rfl rfl (.cons rfl rfl .nil))))))))))))))))
            · exact fun h s => SubC.out h s
          · skip
            refine JMi.eff rfl rfl rfl rfl (m' := 27647) rfl (Eff.make boE false rfl rfl rfl rfl rfl (by decide) (by omega) (by omega)) ?_
            rintro _ _ ⟨b101, rfl, rfl⟩
            refine ⟨.inr (fun _ h => h.tail.tail.tail), ?_⟩
            have H := H27647 (b91, a93, c93, b95, b97, b99, b101)
            dsimp only at H
            refine JM.weaken ?_ ?_ H
            · exact (.cons rfl rfl (.cons rfl rfl (.cons rfl rfl (.cons rfl rfl (.cons rfl rfl (.cons rfl rfl (.cons rfl rfl (.cons rfl rfl (.cons rfl rfl (.cons rfl rfl (.cons rfl rfl (.cons rfl rfl (.cons rfl rfl (.cons rfl rfl (.cons rfl rfl (.cons rfl rfl .nil))))))))))))))))
            · exact fun h s => SubC.out h s
        refine JM.cut (ι := Nat × Option Addr × Nat × Nat × Nat × Nat × Nat) (fuel1 := 6) (m1 := 12031) (fun x => [(91, .slice (some ⟨x.1, 0, none⟩) 0 0), (93, .slice x.2.1 vs.length x.2.2.1), (97, .slice (some ⟨x.2.2.2.2.1, 0, none⟩) vs.length vs.length), (0, .string k), (2, .int .i64 root), (10, .int .i64 (vs.length : Int)), (87, .string k), (88, .string o), (89, .int .i64 root), (90, .int .i64 (vs.length : Int)), (92, .slice va vs.length cap), (94, .int .i64 (vs.length : Int)), (96, .int .i64 (vs.length : Int)), (98, .int .i64 (vs.length : Int)), (100, .int .i64 (vs.length : Int))]) (fun x => sl intE x.2.1 x.2.2.1 vs :: sl grE (some ⟨x.2.2.2.2.1, 0, none⟩) vs.length (List.replicate vs.length ((none, 0), [])) :: L) (fun x => ?_) (fun H12031 => ?_)
        · obtain ⟨b91, a93, c93, b95, b97, b99, b101⟩ := x
          dsimp only
          refine JM.many (rs := [8, 12, 14]) (by kernel_rfl) rfl (fun i hi => ?_)
          simp only [List.mem_cons, List.not_mem_nil, or_false] at hi
          rcases hi with rfl | rfl | rfl
          · skip
            refine JMi.eff rfl rfl rfl rfl (m' := 12287) rfl (Eff.make boE false rfl rfl rfl rfl rfl (by decide) (by omega) (by omega)) ?_
            rintro _ _ ⟨b95, rfl, rfl⟩
            refine ⟨.inr (fun _ h => h.tail.tail.tail), ?_⟩
            have H := H12287 (b91, a93, c93, b95, b97, b99, b101)
            dsimp only at H
            refine JM.weaken ?_ ?_ H
            · exact (.cons rfl rfl (.cons rfl rfl (.cons rfl rfl (.cons rfl rfl (.cons rfl rfl (.cons rfl rfl (.cons rfl rfl (.cons rfl rfl (.cons rfl rfl (.cons rfl rfl (.cons rfl rfl (.cons rfl rfl (.cons rfl rfl (.cons rfl rfl (.cons rfl rfl (.cons rfl rfl .nil))))))))))))))))
            · exact fun h s => SubC.out h s
          · skip
            refine JMi.eff rfl rfl rfl rfl (m' := 16127) rfl (Eff.make natE 0 rfl rfl rfl rfl rfl (by decide) (by omega) (by omega)) ?_
            rintro _ _ ⟨b99, rfl, rfl⟩
            refine ⟨.inr (fun _ h => h.tail.tail.tail), ?_⟩
            have H := H16127 (b91, a93, c93, b95, b97, b99, b101)
            dsimp only at H
            refine JM.weaken ?_ ?_ H
            · exact (.cons rfl rfl (.cons rfl rfl (.cons rfl rfl (.cons rfl rfl (.cons rfl rfl (.cons rfl rfl (.cons rfl rfl (.cons rfl rfl (.cons rfl rfl (.cons rfl rfl (.cons rfl rfl (.cons rfl rfl (.cons rfl rfl (.cons rfl rfl (.cons rfl rfl (.cons rfl rfl .nil))))))))))))))))
            · exact fun h s => SubC.out h s
          · skip
            refine JMi.eff rfl rfl rfl rfl (m' := 28415) rfl (Eff.make boE false rfl rfl rfl rfl rfl (by decide) (by omega) (by omega)) ?_
            rintro _ _ ⟨b101, rfl, rfl⟩
            refine ⟨.inr (fun _ h => h.tail.tail.tail), ?_⟩
            have H := H28415 (b91, a93, c93, b95, b97, b99, b101)
            dsimp only at H
            refine JM.weaken ?_ ?_ H
            · exact (.cons rfl rfl (.cons rfl rfl (.cons rfl rfl (.cons rfl rfl (.cons rfl rfl (.cons rfl rfl (.cons rfl rfl (.cons rfl rfl (.cons rfl rfl (.cons rfl rfl (.cons rfl rfl (.cons rfl rfl (.cons rfl rfl (.cons rfl rfl (.cons rfl rfl (.cons rfl rfl .nil))))))))))))))))
            · exact fun h s => SubC.out h s
        refine JM.cut (ι := Nat × Option Addr × Nat × Nat × Nat × Nat × Nat) (fuel1 := 6) (m1 := 15103) (fun x => [(91, .slice (some ⟨x.1, 0, none⟩) 0 0), (93, .slice x.2.1 vs.length x.2.2.1), (99, .slice (some ⟨x.2.2.2.2.2.1, 0, none⟩) vs.length vs.length), (0, .string k), (2, .int .i64 root), (10, .int .i64 (vs.length : Int)), (87, .string k), (88, .string o), (89, .int .i64 root), (90, .int .i64 (vs.length : Int)), (92, .slice va vs.length cap), (94, .int .i64 (vs.length : Int)), (96, .int .i64 (vs.length : Int)), (98, .int .i64 (vs.length : Int)), (100, .int .i64 (vs.length : Int))]) (fun x => sl intE x.2.1 x.2.2.1 vs :: sl natE (some ⟨x.2.2.2.2.2.1, 0, none⟩) vs.length (List.replicate vs.length 0) :: L) (fun x => ?_) (fun H15103 => ?_)
        · obtain ⟨b91, a93, c93, b95, b97, b99, b101⟩ := x
          dsimp only
          refine JM.many (rs := [8, 10, 14]) (by kernel_rfl) rfl (fun i hi => ?_)
          simp only [List.mem_cons, List.not_mem_nil, or_false] at hi
          rcases hi with rfl | rfl | rfl
          · skip
            refine JMi.eff rfl rfl rfl rfl (m' := 15359) rfl (Eff.make boE false rfl rfl rfl rfl rfl (by decide) (by omega) (by omega)) ?_
            rintro _ _ ⟨b95, rfl, rfl⟩
            refine ⟨.inr (fun _ h => h.tail.tail.tail), ?_⟩
            have H := H15359 (b91, a93, c93, b95, b97, b99, b101)
            dsimp only at H
            refine JM.weaken ?_ ?_ H
            · exact (.cons rfl rfl (.cons rfl rfl (.cons rfl rfl (.cons rfl rfl (.cons rfl rfl (.cons rfl rfl (.cons rfl rfl (.cons rfl rfl (.cons rfl rfl (.cons rfl rfl (.cons rfl rfl (.cons rfl rfl (.cons rfl rfl (.cons rfl rfl (.cons rfl rfl (.cons rfl rfl .nil))))))))))))))))
            · exact fun h s => SubC.out h s
          · skip
            refine JMi.eff rfl rfl rfl rfl (m' := 16127) rfl (Eff.make grE ((none, 0), []) rfl rfl rfl rfl rfl (by decide) (by omega) (by omega)) ?_
            rintro _ _ ⟨b97, rfl, rfl⟩
            refine ⟨.inr (fun _ h => h.tail.tail.tail), ?_⟩
            have H := H16127 (b91, a93, c93, b95, b97, b99, b101)
            dsimp only at H
            refine JM.weaken ?_ ?_ H
            · exact (.cons rfl rfl (.cons rfl rfl (.cons rfl rfl (.cons rfl rfl (.cons rfl rfl (.cons rfl rfl (.cons rfl rfl (.cons rfl rfl (.cons rfl rfl (.cons rfl rfl (.cons rfl rfl (.cons rfl rfl (.cons rfl rfl (.cons rfl rfl (.cons rfl rfl (.cons rfl rfl .nil))))))))))))))))
            · exact fun h s => SubC.out h s
          · skip
            refine JMi.eff rfl rfl rfl rfl (m' := 31487) rfl (Eff.make boE false rfl rfl rfl rfl rfl (by decide) (by omega) (by omega)) ?_
            rintro _ _ ⟨b101, rfl, rfl⟩
            refine ⟨.inr (fun _ h => h.tail.tail.tail), ?_⟩
            have H := H31487 (b91, a93, c93, b95, b97, b99, b101)
            dsimp only at H
            refine JM.weaken ?_ ?_ H
            · exact (.cons rfl rfl (.cons rfl rfl (.cons rfl rfl (.cons rfl rfl (.cons rfl rfl (.cons rfl rfl (.cons rfl rfl (.cons rfl rfl (.cons rfl rfl (.cons rfl rfl (.cons rfl rfl (.cons rfl rfl (.cons rfl rfl (.cons rfl rfl (.cons rfl rfl (.cons rfl rfl .nil))))))))))))))))
            · exact fun h s => SubC.out h s
        refine JM.cut (ι := Nat × Option Addr × Nat × Nat × Nat × Nat × Nat) (fuel1 := 6) (m1 := 27391) (fun x => [(91, .slice (some ⟨x.1, 0, none⟩) 0 0), (93, .slice x.2.1 vs.length x.2.2.1), (101, .slice (some ⟨x.2.2.2.2.2.2, 0, none⟩) vs.length vs.length), (0, .string k), (2, .int .i64 root), (10, .int .i64 (vs.length : Int)), (87, .string k), (88, .string o), (89, .int .i64 root), (90, .int .i64 (vs.length : Int)), (92, .slice va vs.length cap), (94, .int .i64 (vs.length : Int)), (96, .int .i64 (vs.length : Int)), (98, .int .i64 (vs.length : Int)), (100, .int .i64 (vs.length : Int))]) (fun x => sl intE x.2.1 x.2.2.1 vs :: sl boE (some ⟨x.2.2.2.2.2.2, 0, none⟩) vs.length (List.replicate vs.length false) :: L) (fun x => ?_) (fun H27391 => ?_)
        · obtain ⟨b91, a93, c93, b95, b97, b99, b101⟩ := x
          dsimp only
          refine JM.many (rs := [8, 10, 12]) (by kernel_rfl) rfl (fun i hi => ?_)
          simp only [List.mem_cons, List.not_mem_nil, or_false] at hi
          rcases hi with rfl | rfl | rfl
          · skip
            refine JMi.eff rfl rfl rfl rfl (m' := 27647) rfl (Eff.make boE false rfl rfl rfl rfl rfl (by decide) (by omega) (by omega)) ?_
            rintro _ _ ⟨b95, rfl, rfl⟩
            refine ⟨.inr (fun _ h => h.tail.tail.tail), ?_⟩
            have H := H27647 (b91, a93, c93, b95, b97, b99, b101)
            dsimp only at H
            refine JM.weaken ?_ ?_ H
            · exact (.cons rfl rfl (.cons rfl rfl (.cons rfl rfl (.cons rfl rfl (.cons rfl rfl (.cons rfl rfl (.cons rfl rfl (.cons rfl rfl (.cons rfl rfl (.cons rfl rfl (.cons rfl rfl (.cons rfl rfl (.cons rfl rfl (.cons rfl rfl (.cons rfl rfl (.cons rfl rfl .nil))))))))))))))))
            · exact fun h s => SubC.out h s
          · skip
            refine JMi.eff rfl rfl rfl rfl (m' := 28415) rfl (Eff.make grE ((none, 0), []) rfl rfl rfl rfl rfl (by decide) (by omega) (by omega)) ?_
            rintro _ _ ⟨b97, rfl, rfl⟩
            refine ⟨.inr (fun _ h => h.tail.tail.tail), ?_⟩
            have H := H28415 (b91, a93, c93, b95, b97, b99, b101)
            dsimp only at H
            refine JM.weaken ?_ ?_ H
            · exact (.cons rfl rfl (.cons rfl rfl (.cons rfl rfl (.cons rfl rfl (.cons rfl rfl (.cons rfl rfl (.cons rfl rfl (.cons rfl rfl (.cons rfl rfl (.cons rfl rfl (.cons rfl rfl (.cons rfl rfl (.cons rfl rfl (.cons rfl rfl (.cons rfl rfl (.cons rfl rfl .nil))))))))))))))))
            · exact fun h s => SubC.out h s
          · skip
            refine JMi.eff rfl rfl rfl rfl (m' := 31487) rfl (Eff.make natE 0 rfl rfl rfl rfl rfl (by decide) (by omega) (by omega)) ?_
            rintro _ _ ⟨b99, rfl, rfl⟩
            refine ⟨.inr (fun _ h => h.tail.tail.tail), ?_⟩
            have H := H31487 (b91, a93, c93, b95, b97, b99, b101)
            dsimp only at H
            refine JM.weaken ?_ ?_ H
            · exact (.cons rfl rfl (.cons rfl rfl (.cons rfl rfl (.cons rfl rfl (.cons rfl rfl (.cons rfl rfl (.cons rfl rfl (.cons rfl rfl (.cons rfl rfl (.cons rfl rfl (.cons rfl rfl (.cons rfl rfl (.cons rfl rfl (.cons rfl rfl (.cons rfl rfl (.cons rfl rfl .nil))))))))))))))))
            · exact fun h s => SubC.out h s
        refine JM.cut (ι := Nat × Option Addr × Nat × Nat × Nat × Nat × Nat) (fuel1 := 6) (m1 := 12223) (fun x => [(91, .slice (some ⟨x.1, 0, none⟩) 0 0), (95, .slice (some ⟨x.2.2.2.1, 0, none⟩) vs.length vs.length), (97, .slice (some ⟨x.2.2.2.2.1, 0, none⟩) vs.length vs.length), (0, .string k), (2, .int .i64 root), (10, .int .i64 (vs.length : Int)), (87, .string k), (88, .string o), (89, .int .i64 root), (90, .int .i64 (vs.length : Int)), (92, .slice va vs.length cap), (94, .int .i64 (vs.length : Int)), (96, .int .i64 (vs.length : Int)), (98, .int .i64 (vs.length : Int)), (100, .int .i64 (vs.length : Int))]) (fun x => sl intE (some ⟨x.1, 0, none⟩) 0 [] :: sl boE (some ⟨x.2.2.2.1, 0, none⟩) vs.length (List.replicate vs.length false) :: sl grE (some ⟨x.2.2.2.2.1, 0, none⟩) vs.length (List.replicate vs.length ((none, 0), [])) :: L) (fun x => ?_) (fun H12223 => ?_)
        · obtain ⟨b91, a93, c93, b95, b97, b99, b101⟩ := x
          dsimp only
          refine JM.many (rs := [6, 12, 14]) (by kernel_rfl) rfl (fun i hi => ?_)
          simp only [List.mem_cons, List.not_mem_nil, or_false] at hi
          rcases hi with rfl | rfl | rfl
          · skip
            refine JMi.eff rfl rfl rfl rfl (m' := 12287) rfl (Eff.append rfl rfl rfl rfl (by first | rfl | omega | (simp; done) | (simp; omega)) (by first | rfl | omega | (simp; done) | (simp; omega)) (by decide) (by simp; omega) (by simp; omega) (fun h => absurd h hva)) ?_
            rintro _ _ ⟨a93, c93, rfl, rfl⟩
            refine ⟨.inr (fun _ h => h.tail.tail.tail), ?_⟩
            refine JM.setv (u' := .slice a93 vs.length c93) 93 rfl (by simp) ?_
            rw [List.nil_append]
            have H := H12287 (b91, a93, c93, b95, b97, b99, b101)
            dsimp only at H
            refine JM.weaken ?_ ?_ H
            · exact (.cons rfl rfl (.cons rfl rfl (.cons rfl rfl (.cons rfl rfl (.cons rfl rfl (.cons rfl rfl (.cons rfl rfl (.cons rfl rfl (.cons rfl rfl (.cons rfl rfl (.cons rfl rfl (.cons rfl rfl (.cons rfl rfl (.cons rfl rfl (.cons rfl rfl (.cons rfl rfl .nil))))))))))))))))
            · exact fun h s => SubC.out h s
          · skip
            refine JMi.eff rfl rfl rfl rfl (m' := 16319) rfl (Eff.make natE 0 rfl rfl rfl rfl rfl (by decide) (by omega) (by omega)) ?_
            rintro _ _ ⟨b99, rfl, rfl⟩
            refine ⟨.inr (fun _ h => h.tail.tail.tail.tail), ?_⟩
            have H := H16319 (b91, a93, c93, b95, b97, b99, b101)
            dsimp only at H
            refine JM.weaken ?_ ?_ H
            · exact (.cons rfl rfl (.cons rfl rfl (.cons rfl rfl (.cons rfl rfl (.cons rfl rfl (.cons rfl rfl (.cons rfl rfl (.cons rfl rfl (.cons rfl rfl (.cons rfl rfl (.cons rfl rfl (.cons rfl rfl (.cons rfl rfl (.cons rfl rfl (.cons rfl rfl (.cons rfl rfl .nil))))))))))))))))
            · exact fun h s => SubC.out h s
          · skip
            refine JMi.eff rfl rfl rfl rfl (m' := 28607) rfl (Eff.make boE false rfl rfl rfl rfl rfl (by decide) (by omega) (by omega)) ?_
            rintro _ _ ⟨b101, rfl, rfl⟩
            refine ⟨.inr (fun _ h => h.tail.tail.tail.tail), ?_⟩
            have H := H28607 (b91, a93, c93, b95, b97, b99, b101)
            dsimp only at H
            refine JM.weaken ?_ ?_ H
            · exact (.cons rfl rfl (.cons rfl rfl (.cons rfl rfl (.cons rfl rfl (.cons rfl rfl (.cons rfl rfl (.cons rfl rfl (.cons rfl rfl (.cons rfl rfl (.cons rfl rfl (.cons rfl rfl (.cons rfl rfl (.cons rfl rfl (.cons rfl rfl (.cons rfl rfl (.cons rfl rfl .nil))))))))))))))))
            · exact fun h s => SubC.out h s
        refine JM.cut (ι := Nat × Option Addr × Nat × Nat × Nat × Nat × Nat) (fuel1 := 6) (m1 := 15295) (fun x => [(91, .slice (some ⟨x.1, 0, none⟩) 0 0), (95, .slice (some ⟨x.2.2.2.1, 0, none⟩) vs.length vs.length), (99, .slice (some ⟨x.2.2.2.2.2.1, 0, none⟩) vs.length vs.length), (0, .string k), (2, .int .i64 root), (10, .int .i64 (vs.length : Int)), (87, .string k), (88, .string o), (89, .int .i64 root), (90, .int .i64 (vs.length : Int)), (92, .slice va vs.length cap), (94, .int .i64 (vs.length : Int)), (96, .int .i64 (vs.length : Int)), (98, .int .i64 (vs.length : Int)), (100, .int .i64 (vs.length : Int))]) (fun x => sl intE (some ⟨x.1, 0, none⟩) 0 [] :: sl boE (some ⟨x.2.2.2.1, 0, none⟩) vs.length (List.replicate vs.length false) :: sl natE (some ⟨x.2.2.2.2.2.1, 0, none⟩) vs.length (List.replicate vs.length 0) :: L) (fun x => ?_) (fun H15295 => ?_)
        · obtain ⟨b91, a93, c93, b95, b97, b99, b101⟩ := x
          dsimp only
          refine JM.many (rs := [6, 10, 14]) (by kernel_rfl) rfl (fun i hi => ?_)
          simp only [List.mem_cons, List.not_mem_nil, or_false] at hi
          rcases hi with rfl | rfl | rfl
          · skip
            refine JMi.eff rfl rfl rfl rfl (m' := 15359) rfl (Eff.append rfl rfl rfl rfl (by first | rfl | omega | (simp; done) | (simp; omega)) (by first | rfl | omega | (simp; done) | (simp; omega)) (by decide) (by simp; omega) (by simp; omega) (fun h => absurd h hva)) ?_
            rintro _ _ ⟨a93, c93, rfl, rfl⟩
            refine ⟨.inr (fun _ h => h.tail.tail.tail), ?_⟩
            refine JM.setv (u' := .slice a93 vs.length c93) 93 rfl (by simp) ?_
            rw [List.nil_append]
            have H := H15359 (b91, a93, c93, b95, b97, b99, b101)
            dsimp only at H
            refine JM.weaken ?_ ?_ H
            · exact (.cons rfl rfl (.cons rfl rfl (.cons rfl rfl (.cons rfl rfl (.cons rfl rfl (.cons rfl rfl (.cons rfl rfl (.cons rfl rfl (.cons rfl rfl (.cons rfl rfl (.cons rfl rfl (.cons rfl rfl (.cons rfl rfl (.cons rfl rfl (.cons rfl rfl (.cons rfl rfl .nil))))))))))))))))
            · exact fun h s => SubC.out h s
          · skip
            refine JMi.eff rfl rfl rfl rfl (m' := 16319) rfl (Eff.make grE ((none, 0), []) rfl rfl rfl rfl rfl (by decide) (by omega) (by omega)) ?_
            rintro _ _ ⟨b97, rfl, rfl⟩
            refine ⟨.inr (fun _ h => h.tail.tail.tail.tail), ?_⟩
            have H := H16319 (b91, a93, c93, b95, b97, b99, b101)
            dsimp only at H
            refine JM.weaken ?_ ?_ H
            · exact (.cons rfl rfl (.cons rfl rfl (.cons rfl rfl (.cons rfl rfl (.cons rfl rfl (.cons rfl rfl (.cons rfl rfl (.cons rfl rfl (.cons rfl rfl (.cons rfl rfl (.cons rfl rfl (.cons rfl rfl (.cons rfl rfl (.cons rfl rfl (.cons rfl rfl (.cons rfl rfl .nil))))))))))))))))
            · exact fun h s => SubC.out h s
          · skip
            refine JMi.eff rfl rfl rfl rfl (m' := 31679) rfl (Eff.make boE false rfl rfl rfl rfl rfl (by decide) (by omega) (by omega)) ?_
            rintro _ _ ⟨b101, rfl, rfl⟩
            refine ⟨.inr (fun _ h => h.tail.tail.tail.tail), ?_⟩
            have H := H31679 (b91, a93, c93, b95, b97, b99, b101)
            dsimp only at H
            refine JM.weaken ?_ ?_ H
            · exact (.cons rfl rfl (.cons rfl rfl (.cons rfl rfl (.cons rfl rfl (.cons rfl rfl (.cons rfl rfl (.cons rfl rfl (.cons rfl rfl (.cons rfl rfl (.cons rfl rfl (.cons rfl rfl (.cons rfl rfl (.cons rfl rfl (.cons rfl rfl (.cons rfl rfl (.cons rfl rfl .nil))))))))))))))))
            · exact fun h s => SubC.out h s
        refine JM.cut (ι := Nat × Option Addr × Nat × Nat × Nat × Nat × Nat) (fuel1 := 6) (m1 := 27583) (fun x => [(91, .slice (some ⟨x.1, 0, none⟩) 0 0), (95, .slice (some ⟨x.2.2.2.1, 0, none⟩) vs.length vs.length), (101, .slice (some ⟨x.2.2.2.2.2.2, 0, none⟩) vs.length vs.length), (0, .string k), (2, .int .i64 root), (10, .int .i64 (vs.length : Int)), (87, .string k), (88, .string o), (89, .int .i64 root), (90, .int .i64 (vs.length : Int)), (92, .slice va vs.length cap), (94, .int .i64 (vs.length : Int)), (96, .int .i64 (vs.length : Int)), (98, .int .i64 (vs.length : Int)), (100, .int .i64 (vs.length : Int))]) (fun x => sl intE (some ⟨x.1, 0, none⟩) 0 [] :: sl boE (some ⟨x.2.2.2.1, 0, none⟩) vs.length (List.replicate vs.length false) :: sl boE (some ⟨x.2.2.2.2.2.2, 0, none⟩) vs.length (List.replicate vs.length false) :: L) (fun x => ?_) (fun H27583 => ?_)
        · obtain ⟨b91, a93, c93, b95, b97, b99, b101⟩ := x
          dsimp only
          refine JM.many (rs := [6, 10, 12]) (by kernel_rfl) rfl (fun i hi => ?_)
          simp only [List.mem_cons, List.not_mem_nil, or_false] at hi
          rcases hi with rfl | rfl | rfl
          · skip
            refine JMi.eff rfl rfl rfl rfl (m' := 27647) rfl (Eff.append rfl rfl rfl rfl (by first | rfl | omega | (simp; done) | (simp; omega)) (by first | rfl | omega | (simp; done) | (simp; omega)) (by decide) (by simp; omega) (by simp; omega) (fun h => absurd h hva)) ?_
            rintro _ _ ⟨a93, c93, rfl, rfl⟩
            refine ⟨.inr (fun _ h => h.tail.tail.tail), ?_⟩
            refine JM.setv (u' := .slice a93 vs.length c93) 93 rfl (by simp) ?_
            rw [List.nil_append]
            have H := H27647 (b91, a93, c93, b95, b97, b99, b101)
            dsimp only at H
            refine JM.weaken ?_ ?_ H
            · exact (.cons rfl rfl (.cons rfl rfl (.cons rfl rfl (.cons rfl rfl (.cons rfl rfl (.cons rfl rfl (.cons rfl rfl (.cons rfl rfl (.cons rfl rfl (.cons rfl rfl (.cons rfl rfl (.cons rfl rfl (.cons rfl rfl (.cons rfl rfl (.cons rfl rfl (.cons rfl rfl .nil))))))))))))))))
            · exact fun h s => SubC.out h s
          · skip
            refine JMi.eff rfl rfl rfl rfl (m' := 28607) rfl (Eff.make grE ((none, 0), []) rfl rfl rfl rfl rfl (by decide) (by omega) (by omega)) ?_
            rintro _ _ ⟨b97, rfl, rfl⟩
            refine ⟨.inr (fun _ h => h.tail.tail.tail.tail), ?_⟩
            have H := H28607 (b91, a93, c93, b95, b97, b99, b101)
            dsimp only at H
            refine JM.weaken ?_ ?_ H
            · exact (.cons rfl rfl (.cons rfl rfl (.cons rfl rfl (.cons rfl rfl (.cons rfl rfl (.cons rfl rfl (.cons rfl rfl (.cons rfl rfl (.cons rfl rfl (.cons rfl rfl (.cons rfl rfl (.cons rfl rfl (.cons rfl rfl (.cons rfl rfl (.cons rfl rfl (.cons rfl rfl .nil))))))))))))))))
            · exact fun h s => SubC.out h s
          · skip
            refine JMi.eff rfl rfl rfl rfl (m' := 31679) rfl (Eff.make natE 0 rfl rfl rfl rfl rfl (by decide) (by omega) (by omega)) ?_
            rintro _ _ ⟨b99, rfl, rfl⟩
            refine ⟨.inr (fun _ h => h.tail.tail.tail.tail), ?_⟩
            have H := H31679 (b91, a93, c93, b95, b97, b99, b101)
            dsimp only at H
            refine JM.weaken ?_ ?_ H
            · exact (.cons rfl rfl (.cons rfl rfl (.cons rfl rfl (.cons rfl rfl (.cons rfl rfl (.cons rfl rfl (.cons rfl rfl (.cons rfl rfl (.cons rfl rfl (.cons rfl rfl (.cons rfl rfl (.cons rfl rfl (.cons rfl rfl (.cons rfl rfl (.cons rfl rfl (.cons rfl rfl .nil))))))))))))))))
            · exact fun h s => SubC.out h s
        refine JM.cut (ι := Nat × Option Addr × Nat × Nat × Nat × Nat × Nat) (fuel1 := 6) (m1 := 16063) (fun x => [(91, .slice (some ⟨x.1, 0, none⟩) 0 0), (97, .slice (some ⟨x.2.2.2.2.1, 0, none⟩) vs.length vs.length), (99, .slice (some ⟨x.2.2.2.2.2.1, 0, none⟩) vs.length vs.length), (0, .string k), (2, .int .i64 root), (10, .int .i64 (vs.length : Int)), (87, .string k), (88, .string o), (89, .int .i64 root), (90, .int .i64 (vs.length : Int)), (92, .slice va vs.length cap), (94, .int .i64 (vs.length : Int)), (96, .int .i64 (vs.length : Int)), (98, .int .i64 (vs.length : Int)), (100, .int .i64 (vs.length : Int))]) (fun x => sl intE (some ⟨x.1, 0, none⟩) 0 [] :: sl grE (some ⟨x.2.2.2.2.1, 0, none⟩) vs.length (List.replicate vs.length ((none, 0), [])) :: sl natE (some ⟨x.2.2.2.2.2.1, 0, none⟩) vs.length (List.replicate vs.length 0) :: L) (fun x => ?_) (fun H16063 => ?_)
        · obtain ⟨b91, a93, c93, b95, b97, b99, b101⟩ := x
          dsimp only
          refine JM.many (rs := [6, 8, 14]) (by kernel_rfl) rfl (fun i hi => ?_)
          simp only [List.mem_cons, List.not_mem_nil, or_false] at hi
          rcases hi with rfl | rfl | rfl
          · skip
            refine JMi.eff rfl rfl rfl rfl (m' := 16127) rfl (Eff.append rfl rfl rfl rfl (by first | rfl | omega | (simp; done) | (simp; omega)) (by first | rfl | omega | (simp; done) | (simp; omega)) (by decide) (by simp; omega) (by simp; omega) (fun h => absurd h hva)) ?_
            rintro _ _ ⟨a93, c93, rfl, rfl⟩
            refine ⟨.inr (fun _ h => h.tail.tail.tail), ?_⟩
            refine JM.setv (u' := .slice a93 vs.length c93) 93 rfl (by simp) ?_
            rw [List.nil_append]
            have H := H16127 (b91, a93, c93, b95, b97, b99, b101)
            dsimp only at H
            refine JM.weaken ?_ ?_ H
            · exact (.cons rfl rfl (.cons rfl rfl (.cons rfl rfl (.cons rfl rfl (.cons rfl rfl (.cons rfl rfl (.cons rfl rfl (.cons rfl rfl (.cons rfl rfl (.cons rfl rfl (.cons rfl rfl (.cons rfl rfl (.cons rfl rfl (.cons rfl rfl (.cons rfl rfl (.cons rfl rfl .nil))))))))))))))))
            · exact fun h s => SubC.out h s
          · skip
            refine JMi.eff rfl rfl rfl rfl (m' := 16319) rfl (Eff.make boE false rfl rfl rfl rfl rfl (by decide) (by omega) (by omega)) ?_
            rintro _ _ ⟨b95, rfl, rfl⟩
            refine ⟨.inr (fun _ h => h.tail.tail.tail.tail), ?_⟩
            have H := H16319 (b91, a93, c93, b95, b97, b99, b101)
            dsimp only at H
            refine JM.weaken ?_ ?_ H
            · exact (.cons rfl rfl (.cons rfl rfl (.cons rfl rfl (.cons rfl rfl (.cons rfl rfl (.cons rfl rfl (.cons rfl rfl (.cons rfl rfl (.cons rfl rfl (.cons rfl rfl (.cons rfl rfl (.cons rfl rfl (.cons rfl rfl (.cons rfl rfl (.cons rfl rfl (.cons rfl rfl .nil))))))))))))))))
            · exact fun h s => SubC.out h s
          · skip
            refine JMi.eff rfl rfl rfl rfl (m' := 32447) rfl (Eff.make boE false rfl rfl rfl rfl rfl (by decide) (by omega) (by omega)) ?_
            rintro _ _ ⟨b101, rfl, rfl⟩
            refine ⟨.inr (fun _ h => h.tail.tail.tail.tail), ?_⟩
            have H := H32447 (b91, a93, c93, b95, b97, b99, b101)
            dsimp only at H
            refine JM.weaken ?_ ?_ H
            · exact (.cons rfl rfl (.cons rfl rfl (.cons rfl rfl (.cons rfl rfl (.cons rfl rfl (.cons rfl rfl (.cons rfl rfl (.cons rfl rfl (.cons rfl rfl (.cons rfl rfl (.cons rfl rfl (.cons rfl rfl (.cons rfl rfl (.cons rfl rfl (.cons rfl rfl (.cons rfl rfl .nil))))))))))))))))
            · exact fun h s => SubC.out h s
        refine JM.cut (ι := Nat × Option Addr × Nat × Nat × Nat × Nat × Nat) (fuel1 := 6) (m1 := 28351) (fun x => [(91, .slice (some ⟨x.1, 0, none⟩) 0 0), (97, .slice (some ⟨x.2.2.2.2.1, 0, none⟩) vs.length vs.length), (101, .slice (some ⟨x.2.2.2.2.2.2, 0, none⟩) vs.length vs.length), (0, .string k), (2, .int .i64 root), (10, .int .i64 (vs.length : Int)), (87, .string k), (88, .string o), (89, .int .i64 root), (90, .int .i64 (vs.length : Int)), (92, .slice va vs.length cap), (94, .int .i64 (vs.length : Int)), (96, .int .i64 (vs.length : Int)), (98, .int .i64 (vs.length : Int)), (100, .int .i64 (vs.length : Int))]) (fun x => sl intE (some ⟨x.1, 0, none⟩) 0 [] :: sl grE (some ⟨x.2.2.2.2.1, 0, none⟩) vs.length (List.replicate vs.length ((none, 0), [])) :: sl boE (some ⟨x.2.2.2.2.2.2, 0, none⟩) vs.length (List.replicate vs.length false) :: L) (fun x => ?_) (fun H28351 => ?_)
        · obtain ⟨b91, a93, c93, b95, b97, b99, b101⟩ := x
          dsimp only
          refine JM.many (rs := [6, 8, 12]) (by kernel_rfl) rfl (fun i hi => ?_)
          simp only [List.mem_cons, List.not_mem_nil, or_false] at hi
          rcases hi with rfl | rfl | rfl
          · skip
            refine JMi.eff rfl rfl rfl rfl (m' := 28415) rfl (Eff.append rfl rfl rfl rfl (by first | rfl | omega | (simp; done) | (simp; omega)) (by first | rfl | omega | (simp; done) | (simp; omega)) (by decide) (by simp; omega) (by simp; omega) (fun h => absurd h hva)) ?_
            rintro _ _ ⟨a93, c93, rfl, rfl⟩
            refine ⟨.inr (fun _ h => h.tail.tail.tail), ?_⟩
            refine JM.setv (u' := .slice a93 vs.length c93) 93 rfl (by simp) ?_
            rw [List.nil_append]
            have H := H28415 (b91, a93, c93, b95, b97, b99, b101)
            dsimp only at H
            refine JM.weaken ?_ ?_ H
            · exact (.cons rfl rfl (.cons rfl rfl (.cons rfl rfl (.cons rfl rfl (.cons rfl rfl (.cons rfl rfl (.cons rfl rfl (.cons rfl rfl (.cons rfl rfl (.cons rfl rfl (.cons rfl rfl (.cons rfl rfl (.cons rfl rfl (.cons rfl rfl (.cons rfl rfl (.cons rfl rfl .nil))))))))))))))))
            · exact fun h s => SubC.out h s
          · skip
            refine JMi.eff rfl rfl rfl rfl (m' := 28607) rfl (Eff.make boE false rfl rfl rfl rfl rfl (by decide) (by omega) (by omega)) ?_
            rintro _ _ ⟨b95, rfl, rfl⟩
            refine ⟨.inr (fun _ h => h.tail.tail.tail.tail), ?_⟩
            have H := H28607 (b91, a93, c93, b95, b97, b99, b101)
            dsimp only at H
            refine JM.weaken ?_ ?_ H
            · exact (.cons rfl rfl (.cons rfl rfl (.cons rfl rfl (.cons rfl rfl (.cons rfl rfl (.cons rfl rfl (.cons rfl rfl (.cons rfl rfl (.cons rfl rfl (.cons rfl rfl (.cons rfl rfl (.cons rfl rfl (.cons rfl rfl (.cons rfl rfl (.cons rfl rfl (.cons rfl rfl .nil))))))))))))))))
            · exact fun h s => SubC.out h s
          · skip
            refine JMi.eff rfl rfl rfl rfl (m' := 32447) rfl (Eff.make natE 0 rfl rfl rfl rfl rfl (by decide) (by omega) (by omega)) ?_
            rintro _ _ ⟨b99, rfl, rfl⟩
            refine ⟨.inr (fun _ h => h.tail.tail.tail.tail), ?_⟩
            have H := H32447 (b91, a93, c93, b95, b97, b99, b101)
            dsimp only at H
            refine JM.weaken ?_ ?_ H
            · exact (.cons rfl rfl (.cons rfl rfl (.cons rfl rfl (.cons rfl rfl (.cons rfl rfl (.cons rfl rfl (.cons rfl rfl (.cons rfl rfl (.cons rfl rfl (.cons rfl rfl (.cons rfl rfl (.cons rfl rfl (.cons rfl rfl (.cons rfl rfl (.cons rfl rfl (.cons rfl rfl .nil))))))))))))))))
            · exact fun h s => SubC.out h s
        refine JM.cut (ι := Nat × Option Addr × Nat × Nat × Nat × Nat × Nat) (fuel1 := 6) (m1 := 31423) (fun x => [(91, .slice (some ⟨x.1, 0, none⟩) 0 0), (99, .slice (some ⟨x.2.2.2.2.2.1, 0, none⟩) vs.length vs.length), (101, .slice (some ⟨x.2.2.2.2.2.2, 0, none⟩) vs.length vs.length), (0, .string k), (2, .int .i64 root), (10, .int .i64 (vs.length : Int)), (87, .string k), (88, .string o), (89, .int .i64 root), (90, .int .i64 (vs.length : Int)), (92, .slice va vs.length cap), (94, .int .i64 (vs.length : Int)), (96, .int .i64 (vs.length : Int)), (98, .int .i64 (vs.length : Int)), (100, .int .i64 (vs.length : Int))]) (fun x => sl intE (some ⟨x.1, 0, none⟩) 0 [] :: sl natE (some ⟨x.2.2.2.2.2.1, 0, none⟩) vs.length (List.replicate vs.length 0) :: sl boE (some ⟨x.2.2.2.2.2.2, 0, none⟩) vs.length (List.replicate vs.length false) :: L) (fun x => ?_) (fun H31423 => ?_)
        · obtain ⟨b91, a93, c93, b95, b97, b99, b101⟩ := x
          dsimp only
          refine JM.many (rs := [6, 8, 10]) (by kernel_rfl) rfl (fun i hi => ?_)
          simp only [List.mem_cons, List.not_mem_nil, or_false] at hi
          rcases hi with rfl | rfl | rfl
          · skip
            refine JMi.eff rfl rfl rfl rfl (m' := 31487) rfl (Eff.append rfl rfl rfl rfl (by first | rfl | omega | (simp; done) | (simp; omega)) (by first | rfl | omega | (simp; done) | (simp; omega)) (by decide) (by simp; omega) (by simp; omega) (fun h => absurd h hva)) ?_
            rintro _ _ ⟨a93, c93, rfl, rfl⟩
            refine ⟨.inr (fun _ h => h.tail.tail.tail), ?_⟩
            refine JM.setv (u' := .slice a93 vs.length c93) 93 rfl (by simp) ?_
            rw [List.nil_append]
            have H := H31487 (b91, a93, c93, b95, b97, b99, b101)
            dsimp only at H
            refine JM.weaken ?_ ?_ H
            · exact (.cons rfl rfl (.cons rfl rfl (.cons rfl rfl (.cons rfl rfl (.cons rfl rfl (.cons rfl rfl (.cons rfl rfl (.cons rfl rfl (.cons rfl rfl (.cons rfl rfl (.cons rfl rfl (.cons rfl rfl (.cons rfl rfl (.cons rfl rfl (.cons rfl rfl (.cons rfl rfl .nil))))))))))))))))
            · exact fun h s => SubC.out h s
          · skip
            refine JMi.eff rfl rfl rfl rfl (m' := 31679) rfl (Eff.make boE false rfl rfl rfl rfl rfl (by decide) (by omega) (by omega)) ?_
            rintro _ _ ⟨b95, rfl, rfl⟩
            refine ⟨.inr (fun _ h => h.tail.tail.tail.tail), ?_⟩
            have H := H31679 (b91, a93, c93, b95, b97, b99, b101)
            dsimp only at H
            refine JM.weaken ?_ ?_ H
            · exact (.cons rfl rfl (.cons rfl rfl (.cons rfl rfl (.cons rfl rfl (.cons rfl rfl (.cons rfl rfl (.cons rfl rfl (.cons rfl rfl (.cons rfl rfl (.cons rfl rfl (.cons rfl rfl (.cons rfl rfl (.cons rfl rfl (.cons rfl rfl (.cons rfl rfl (.cons rfl rfl .nil))))))))))))))))
            · exact fun h s => SubC.out h s
          · skip
            refine JMi.eff rfl rfl rfl rfl (m' := 32447) rfl (Eff.make grE ((none, 0), []) rfl rfl rfl rfl rfl (by decide) (by omega) (by omega)) ?_
            rintro _ _ ⟨b97, rfl, rfl⟩
            refine ⟨.inr (fun _ h => h.tail.tail.tail.tail), ?_⟩
            have H := H32447 (b91, a93, c93, b95, b97, b99, b101)
            dsimp only at H
            refine JM.weaken ?_ ?_ H
            · exact (.cons rfl rfl (.cons rfl rfl (.cons rfl rfl (.cons rfl rfl (.cons rfl rfl (.cons rfl rfl (.cons rfl rfl (.cons rfl rfl (.cons rfl rfl (.cons rfl rfl (.cons rfl rfl (.cons rfl rfl (.cons rfl rfl (.cons rfl rfl (.cons rfl rfl (.cons rfl rfl .nil))))))))))))))))
            · exact fun h s => SubC.out h s
        refine JM.cut (ι := Nat × Option Addr × Nat × Nat × Nat × Nat × Nat) (fuel1 := 6) (m1 := 16303) (fun x => [(95, .slice (some ⟨x.2.2.2.1, 0, none⟩) vs.length vs.length), (97, .slice (some ⟨x.2.2.2.2.1, 0, none⟩) vs.length vs.length), (99, .slice (some ⟨x.2.2.2.2.2.1, 0, none⟩) vs.length vs.length), (0, .string k), (2, .int .i64 root), (10, .int .i64 (vs.length : Int)), (87, .string k), (88, .string o), (89, .int .i64 root), (90, .int .i64 (vs.length : Int)), (92, .slice va vs.length cap), (94, .int .i64 (vs.length : Int)), (96, .int .i64 (vs.length : Int)), (98, .int .i64 (vs.length : Int)), (100, .int .i64 (vs.length : Int))]) (fun x => sl boE (some ⟨x.2.2.2.1, 0, none⟩) vs.length (List.replicate vs.length false) :: sl grE (some ⟨x.2.2.2.2.1, 0, none⟩) vs.length (List.replicate vs.length ((none, 0), [])) :: sl natE (some ⟨x.2.2.2.2.2.1, 0, none⟩) vs.length (List.replicate vs.length 0) :: L) (fun x => ?_) (fun H16303 => ?_)
        · obtain ⟨b91, a93, c93, b95, b97, b99, b101⟩ := x
          dsimp only
          refine JM.many (rs := [4, 14]) (by kernel_rfl) rfl (fun i hi => ?_)
          simp only [List.mem_cons, List.not_mem_nil, or_false] at hi
          rcases hi with rfl | rfl
          · skip
            refine JMi.eff rfl rfl rfl rfl (m' := 16319) rfl (Eff.buildSlice intE [] rfl rfl rfl rfl rfl rfl rfl) ?_
            rintro _ _ ⟨b91, rfl, -, rfl⟩
            refine ⟨.inr (fun _ h => h.tail.tail.tail.tail), ?_⟩
            have H := H16319 (b91, a93, c93, b95, b97, b99, b101)
            dsimp only at H
            refine JM.weaken ?_ ?_ H
            · exact (.cons rfl rfl (.cons rfl rfl (.cons rfl rfl (.cons rfl rfl (.cons rfl rfl (.cons rfl rfl (.cons rfl rfl (.cons rfl rfl (.cons rfl rfl (.cons rfl rfl (.cons rfl rfl (.cons rfl rfl (.cons rfl rfl (.cons rfl rfl (.cons rfl rfl (.cons rfl rfl .nil))))))))))))))))
            · exact fun h s => SubC.out h s
          · skip
            refine JMi.eff rfl rfl rfl rfl (m' := 32687) rfl (Eff.make boE false rfl rfl rfl rfl rfl (by decide) (by omega) (by omega)) ?_
            rintro _ _ ⟨b101, rfl, rfl⟩
            refine ⟨.inr (fun _ h => h.tail.tail.tail.tail), ?_⟩
            have H := H32687 (b91, a93, c93, b95, b97, b99, b101)
            dsimp only at H
            refine JM.weaken ?_ ?_ H
            · exact (.cons rfl rfl (.cons rfl rfl (.cons rfl rfl (.cons rfl rfl (.cons rfl rfl (.cons rfl rfl (.cons rfl rfl (.cons rfl rfl (.cons rfl rfl (.cons rfl rfl (.cons rfl rfl (.cons rfl rfl (.cons rfl rfl (.cons rfl rfl (.cons rfl rfl (.cons rfl rfl .nil))))))))))))))))
            · exact fun h s => SubC.out h s
        refine JM.cut (ι := Nat × Option Addr × Nat × Nat × Nat × Nat × Nat) (fuel1 := 6) (m1 := 28591) (fun x => [(95, .slice (some ⟨x.2.2.2.1, 0, none⟩) vs.length vs.length), (97, .slice (some ⟨x.2.2.2.2.1, 0, none⟩) vs.length vs.length), (101, .slice (some ⟨x.2.2.2.2.2.2, 0, none⟩) vs.length vs.length), (0, .string k), (2, .int .i64 root), (10, .int .i64 (vs.length : Int)), (87, .string k), (88, .string o), (89, .int .i64 root), (90, .int .i64 (vs.length : Int)), (92, .slice va vs.length cap), (94, .int .i64 (vs.length : Int)), (96, .int .i64 (vs.length : Int)), (98, .int .i64 (vs.length : Int)), (100, .int .i64 (vs.length : Int))]) (fun x => sl boE (some ⟨x.2.2.2.1, 0, none⟩) vs.length (List.replicate vs.length false) :: sl grE (some ⟨x.2.2.2.2.1, 0, none⟩) vs.length (List.replicate vs.length ((none, 0), [])) :: sl boE (some ⟨x.2.2.2.2.2.2, 0, none⟩) vs.length (List.replicate vs.length false) :: L) (fun x => ?_) (fun H28591 => ?_)
        · obtain ⟨b91, a93, c93, b95, b97, b99, b101⟩ := x
          dsimp only
          refine JM.many (rs := [4, 12]) (by kernel_rfl) rfl (fun i hi => ?_)
          simp only [List.mem_cons, List.not_mem_nil, or_false] at hi
          rcases hi with rfl | rfl
          · skip
            refine JMi.eff rfl rfl rfl rfl (m' := 28607) rfl (Eff.buildSlice intE [] rfl rfl rfl rfl rfl rfl rfl) ?_
            rintro _ _ ⟨b91, rfl, -, rfl⟩
            refine ⟨.inr (fun _ h => h.tail.tail.tail.tail), ?_⟩
            have H := H28607 (b91, a93, c93, b95, b97, b99, b101)
            dsimp only at H
            refine JM.weaken ?_ ?_ H
            · exact (.cons rfl rfl (.cons rfl rfl (.cons rfl rfl (.cons rfl rfl (.cons rfl rfl (.cons rfl rfl (.cons rfl rfl (.cons rfl rfl (.cons rfl rfl (.cons rfl rfl (.cons rfl rfl (.cons rfl rfl (.cons rfl rfl (.cons rfl rfl (.cons rfl rfl (.cons rfl rfl .nil))))))))))))))))
            · exact fun h s => SubC.out h s
          · skip
            refine JMi.eff rfl rfl rfl rfl (m' := 32687) rfl (Eff.make natE 0 rfl rfl rfl rfl rfl (by decide) (by omega) (by omega)) ?_
            rintro _ _ ⟨b99, rfl, rfl⟩
            refine ⟨.inr (fun _ h => h.tail.tail.tail.tail), ?_⟩
            have H := H32687 (b91, a93, c93, b95, b97, b99, b101)
            dsimp only at H
            refine JM.weaken ?_ ?_ H
            · exact (.cons rfl rfl (.cons rfl rfl (.cons rfl rfl (.cons rfl rfl (.cons rfl rfl (.cons rfl rfl (.cons rfl rfl (.cons rfl rfl (.cons rfl rfl (.cons rfl rfl (.cons rfl rfl (.cons rfl rfl (.cons rfl rfl (.cons rfl rfl (.cons rfl rfl (.cons rfl rfl .nil))))))))))))))))
            · exact fun h s => SubC.out h s
        refine JM.cut (ι := Nat × Option Addr × Nat × Nat × Nat × Nat × Nat) (fuel1 := 6) (m1 := 31663) (fun x => [(95, .slice (some ⟨x.2.2.2.1, 0, none⟩) vs.length vs.length), (99, .slice (some ⟨x.2.2.2.2.2.1, 0, none⟩) vs.length vs.length), (101, .slice (some ⟨x.2.2.2.2.2.2, 0, none⟩) vs.length vs.length), (0, .string k), (2, .int .i64 root), (10, .int .i64 (vs.length : Int)), (87, .string k), (88, .string o), (89, .int .i64 root), (90, .int .i64 (vs.length : Int)), (92, .slice va vs.length cap), (94, .int .i64 (vs.length : Int)), (96, .int .i64 (vs.length : Int)), (98, .int .i64 (vs.length : Int)), (100, .int .i64 (vs.length : Int))]) (fun x => sl boE (some ⟨x.2.2.2.1, 0, none⟩) vs.length (List.replicate vs.length false) :: sl natE (some ⟨x.2.2.2.2.2.1, 0, none⟩) vs.length (List.replicate vs.length 0) :: sl boE (some ⟨x.2.2.2.2.2.2, 0, none⟩) vs.length (List.replicate vs.length false) :: L) (fun x => ?_) (fun H31663 => ?_)
        · obtain ⟨b91, a93, c93, b95, b97, b99, b101⟩ := x
          dsimp only
          refine JM.many (rs := [4, 10]) (by kernel_rfl) rfl (fun i hi => ?_)
          simp only [List.mem_cons, List.not_mem_nil, or_false] at hi
          rcases hi with rfl | rfl
          · skip
            refine JMi.eff rfl rfl rfl rfl (m' := 31679) rfl (Eff.buildSlice intE [] rfl rfl rfl rfl rfl rfl rfl) ?_
            rintro _ _ ⟨b91, rfl, -, rfl⟩
            refine ⟨.inr (fun _ h => h.tail.tail.tail.tail), ?_⟩
            have H := H31679 (b91, a93, c93, b95, b97, b99, b101)
            dsimp only at H
            refine JM.weaken ?_ ?_ H
            · exact (.cons rfl rfl (.cons rfl rfl (.cons rfl rfl (.cons rfl rfl (.cons rfl rfl (.cons rfl rfl (.cons rfl rfl (.cons rfl rfl (.cons rfl rfl (.cons rfl rfl (.cons rfl rfl (.cons rfl rfl (.cons rfl rfl (.cons rfl rfl (.cons rfl rfl (.cons rfl rfl .nil))))))))))))))))
            · exact fun h s => SubC.out h s
          · skip
            refine JMi.eff rfl rfl rfl rfl (m' := 32687) rfl (Eff.make grE ((none, 0), []) rfl rfl rfl rfl rfl (by decide) (by omega) (by omega)) ?_
            rintro _ _ ⟨b97, rfl, rfl⟩
            refine ⟨.inr (fun _ h => h.tail.tail.tail.tail), ?_⟩
            have H := H32687 (b91, a93, c93, b95, b97, b99, b101)
            dsimp only at H
            refine JM.weaken ?_ ?_ H
            · exact (.cons rfl rfl (.cons rfl rfl (.cons rfl rfl (.cons rfl rfl (.cons rfl rfl (.cons rfl rfl (.cons rfl rfl (.cons rfl rfl (.cons rfl rfl (.cons rfl rfl (.cons rfl rfl (.cons rfl rfl (.cons rfl rfl (.cons rfl rfl (.cons rfl rfl (.cons rfl rfl .nil))))))))))))))))
            · exact fun h s => SubC.out h s
        refine JM.cut (ι := Nat × Option Addr × Nat × Nat × Nat × Nat × Nat) (fuel1 := 6) (m1 := 32431) (fun x => [(97, .slice (some ⟨x.2.2.2.2.1, 0, none⟩) vs.length vs.length), (99, .slice (some ⟨x.2.2.2.2.2.1, 0, none⟩) vs.length vs.length), (101, .slice (some ⟨x.2.2.2.2.2.2, 0, none⟩) vs.length vs.length), (0, .string k), (2, .int .i64 root), (10, .int .i64 (vs.length : Int)), (87, .string k), (88, .string o), (89, .int .i64 root), (90, .int .i64 (vs.length : Int)), (92, .slice va vs.length cap), (94, .int .i64 (vs.length : Int)), (96, .int .i64 (vs.length : Int)), (98, .int .i64 (vs.length : Int)), (100, .int .i64 (vs.length : Int))]) (fun x => sl grE (some ⟨x.2.2.2.2.1, 0, none⟩) vs.length (List.replicate vs.length ((none, 0), [])) :: sl natE (some ⟨x.2.2.2.2.2.1, 0, none⟩) vs.length (List.replicate vs.length 0) :: sl boE (some ⟨x.2.2.2.2.2.2, 0, none⟩) vs.length (List.replicate vs.length false) :: L) (fun x => ?_) (fun H32431 => ?_)
        · obtain ⟨b91, a93, c93, b95, b97, b99, b101⟩ := x
          dsimp only
          refine JM.many (rs := [4, 8]) (by kernel_rfl) rfl (fun i hi => ?_)
          simp only [List.mem_cons, List.not_mem_nil, or_false] at hi
          rcases hi with rfl | rfl
          · skip
            refine JMi.eff rfl rfl rfl rfl (m' := 32447) rfl (Eff.buildSlice intE [] rfl rfl rfl rfl rfl rfl rfl) ?_
            rintro _ _ ⟨b91, rfl, -, rfl⟩
            refine ⟨.inr (fun _ h => h.tail.tail.tail.tail), ?_⟩
            have H := H32447 (b91, a93, c93, b95, b97, b99, b101)
            dsimp only at H
            refine JM.weaken ?_ ?_ H
            · exact (.cons rfl rfl (.cons rfl rfl (.cons rfl rfl (.cons rfl rfl (.cons rfl rfl (.cons rfl rfl (.cons rfl rfl (.cons rfl rfl (.cons rfl rfl (.cons rfl rfl (.cons rfl rfl (.cons rfl rfl (.cons rfl rfl (.cons rfl rfl (.cons rfl rfl (.cons rfl rfl .nil))))))))))))))))
            · exact fun h s => SubC.out h s
          · skip
            refine JMi.eff rfl rfl rfl rfl (m' := 32687) rfl (Eff.make boE false rfl rfl rfl rfl rfl (by decide) (by omega) (by omega)) ?_
            rintro _ _ ⟨b95, rfl, rfl⟩
            refine ⟨.inr (fun _ h => h.tail.tail.tail.tail), ?_⟩
            have H := H32687 (b91, a93, c93, b95, b97, b99, b101)
            dsimp only at H
            refine JM.weaken ?_ ?_ H
            · exact (.cons rfl rfl (.cons rfl rfl (.cons rfl rfl (.cons rfl rfl (.cons rfl rfl (.cons rfl rfl (.cons rfl rfl (.cons rfl rfl (.cons rfl rfl (.cons rfl rfl (.cons rfl rfl (.cons rfl rfl (.cons rfl rfl (.cons rfl rfl (.cons rfl rfl (.cons rfl rfl .nil))))))))))))))))
            · exact fun h s => SubC.out h s
        refine JM.cut (ι := Nat × Option Addr × Nat × Nat × Nat × Nat × Nat) (fuel1 := 7) (m1 := 11007) (fun x => [(91, .slice (some ⟨x.1, 0, none⟩) 0 0), (93, .slice x.2.1 vs.length x.2.2.1), (0, .string k), (2, .int .i64 root), (10, .int .i64 (vs.length : Int)), (87, .string k), (88, .string o), (89, .int .i64 root), (90, .int .i64 (vs.length : Int)), (92, .slice va vs.length cap), (94, .int .i64 (vs.length : Int)), (96, .int .i64 (vs.length : Int)), (98, .int .i64 (vs.length : Int)), (100, .int .i64 (vs.length : Int))]) (fun x => sl intE x.2.1 x.2.2.1 vs :: L) (fun x => ?_) (fun H11007 => ?_)
        · obtain ⟨b91, a93, c93, b95, b97, b99, b101⟩ := x
          dsimp only
          refine JM.many (rs := [8, 10, 12, 14]) (by kernel_rfl) rfl (fun i hi => ?_)
          simp only [List.mem_cons, List.not_mem_nil, or_false] at hi
          rcases hi with rfl | rfl | rfl | rfl
          · skip
            refine JMi.eff rfl rfl rfl rfl (m' := 11263) rfl (Eff.make boE false rfl rfl rfl rfl rfl (by decide) (by omega) (by omega)) ?_
            rintro _ _ ⟨b95, rfl, rfl⟩
            refine ⟨.inr (fun _ h => h.tail.tail), ?_⟩
            have H := H11263 (b91, a93, c93, b95, b97, b99, b101)
            dsimp only at H
            refine JM.weaken ?_ ?_ H
            · exact (.cons rfl rfl (.cons rfl rfl (.cons rfl rfl (.cons rfl rfl (.cons rfl rfl (.cons rfl rfl (.cons rfl rfl (.cons rfl rfl (.cons rfl rfl (.cons rfl rfl (.cons rfl rfl (.cons rfl rfl (.cons rfl rfl (.cons rfl rfl (.cons rfl rfl .nil)))))))))))))))
            · exact fun h s => SubC.out h s
          · skip
            refine JMi.eff rfl rfl rfl rfl (m' := 12031) rfl (Eff.make grE ((none, 0), []) rfl rfl rfl rfl rfl (by decide) (by omega) (by omega)) ?_
            rintro _ _ ⟨b97, rfl, rfl⟩
            refine ⟨.inr (fun _ h => h.tail.tail), ?_⟩
            have H := H12031 (b91, a93, c93, b95, b97, b99, b101)
            dsimp only at H
            refine JM.weaken ?_ ?_ H
            · exact (.cons rfl rfl (.cons rfl rfl (.cons rfl rfl (.cons rfl rfl (.cons rfl rfl (.cons rfl rfl (.cons rfl rfl (.cons rfl rfl (.cons rfl rfl (.cons rfl rfl (.cons rfl rfl (.cons rfl rfl (.cons rfl rfl (.cons rfl rfl (.cons rfl rfl .nil)))))))))))))))
            · exact fun h s => SubC.out h s
          · skip
            refine JMi.eff rfl rfl rfl rfl (m' := 15103) rfl (Eff.make natE 0 rfl rfl rfl rfl rfl (by decide) (by omega) (by omega)) ?_
            rintro _ _ ⟨b99, rfl, rfl⟩
            refine ⟨.inr (fun _ h => h.tail.tail), ?_⟩
            have H := H15103 (b91, a93, c93, b95, b97, b99, b101)
            dsimp only at H
            refine JM.weaken ?_ ?_ H
            · exact (.cons rfl rfl (.cons rfl rfl (.cons rfl rfl (.cons rfl rfl (.cons rfl rfl (.cons rfl rfl (.cons rfl rfl (.cons rfl rfl (.cons rfl rfl (.cons rfl rfl (.cons rfl rfl (.cons rfl rfl (.cons rfl rfl (.cons rfl rfl (.cons rfl rfl .nil)))))))))))))))
            · exact fun h s => SubC.out h s
          · skip
            refine JMi.eff rfl rfl rfl rfl (m' := 27391) rfl (Eff.make boE false rfl rfl rfl rfl rfl (by decide) (by omega) (by omega)) ?_
            rintro _ _ ⟨b101, rfl, rfl⟩
            refine ⟨.inr (fun _ h => h.tail.tail), ?_⟩
            have H := H27391 (b91, a93, c93, b95, b97, b99, b101)
            dsimp only at H
            refine JM.weaken ?_ ?_ H
            · exact (.cons rfl rfl (.cons rfl rfl (.cons rfl rfl (.cons rfl rfl (.cons rfl rfl (.cons rfl rfl (.cons rfl rfl (.cons rfl rfl (.cons rfl rfl (.cons rfl rfl (.cons rfl rfl (.cons rfl rfl (.cons rfl rfl (.cons rfl rfl (.cons rfl rfl .nil)))))))))))))))
            · exact fun h s => SubC.out h s
        refine JM.cut (ι := Nat × Option Addr × Nat × Nat × Nat × Nat × Nat) (fuel1 := 7) (m1 := 11199) (fun x => [(91, .slice (some ⟨x.1, 0, none⟩) 0 0), (95, .slice (some ⟨x.2.2.2.1, 0, none⟩) vs.length vs.length), (0, .string k), (2, .int .i64 root), (10, .int .i64 (vs.length : Int)), (87, .string k), (88, .string o), (89, .int .i64 root), (90, .int .i64 (vs.length : Int)), (92, .slice va vs.length cap), (94, .int .i64 (vs.length : Int)), (96, .int .i64 (vs.length : Int)), (98, .int .i64 (vs.length : Int)), (100, .int .i64 (vs.length : Int))]) (fun x => sl intE (some ⟨x.1, 0, none⟩) 0 [] :: sl boE (some ⟨x.2.2.2.1, 0, none⟩) vs.length (List.replicate vs.length false) :: L) (fun x => ?_) (fun H11199 => ?_)
        · obtain ⟨b91, a93, c93, b95, b97, b99, b101⟩ := x
          dsimp only
          refine JM.many (rs := [6, 10, 12, 14]) (by kernel_rfl) rfl (fun i hi => ?_)
          simp only [List.mem_cons, List.not_mem_nil, or_false] at hi
          rcases hi with rfl | rfl | rfl | rfl
          · skip
            refine JMi.eff rfl rfl rfl rfl (m' := 11263) rfl (Eff.append rfl rfl rfl rfl (by first | rfl | omega | (simp; done) | (simp; omega)) (by first | rfl | omega | (simp; done) | (simp; omega)) (by decide) (by simp; omega) (by simp; omega) (fun h => absurd h hva)) ?_
            rintro _ _ ⟨a93, c93, rfl, rfl⟩
            refine ⟨.inr (fun _ h => h.tail.tail), ?_⟩
            refine JM.setv (u' := .slice a93 vs.length c93) 93 rfl (by simp) ?_
            rw [List.nil_append]
            have H := H11263 (b91, a93, c93, b95, b97, b99, b101)
            dsimp only at H
            refine JM.weaken ?_ ?_ H
            · exact (.cons rfl rfl (.cons rfl rfl (.cons rfl rfl (.cons rfl rfl (.cons rfl rfl (.cons rfl rfl (.cons rfl rfl (.cons rfl rfl (.cons rfl rfl (.cons rfl rfl (.cons rfl rfl (.cons rfl rfl (.cons rfl rfl (.cons rfl rfl (.cons rfl rfl .nil)))))))))))))))
            · exact fun h s => SubC.out h s
          · skip
            refine JMi.eff rfl rfl rfl rfl (m' := 12223) rfl (Eff.make grE ((none, 0), []) rfl rfl rfl rfl rfl (by decide) (by omega) (by omega)) ?_
            rintro _ _ ⟨b97, rfl, rfl⟩
            refine ⟨.inr (fun _ h => h.tail.tail.tail), ?_⟩
            have H := H12223 (b91, a93, c93, b95, b97, b99, b101)
            dsimp only at H
            refine JM.weaken ?_ ?_ H
            · exact (.cons rfl rfl (.cons rfl rfl (.cons rfl rfl (.cons rfl rfl (.cons rfl rfl (.cons rfl rfl (.cons rfl rfl (.cons rfl rfl (.cons rfl rfl (.cons rfl rfl (.cons rfl rfl (.cons rfl rfl (.cons rfl rfl (.cons rfl rfl (.cons rfl rfl .nil)))))))))))))))
            · exact fun h s => SubC.out h s
          · skip
            refine JMi.eff rfl rfl rfl rfl (m' := 15295) rfl (Eff.make natE 0 rfl rfl rfl rfl rfl (by decide) (by omega) (by omega)) ?_
            rintro _ _ ⟨b99, rfl, rfl⟩
            refine ⟨.inr (fun _ h => h.tail.tail.tail), ?_⟩
            have H := H15295 (b91, a93, c93, b95, b97, b99, b101)
            dsimp only at H
            refine JM.weaken ?_ ?_ H
            · exact (.cons rfl rfl (.cons rfl rfl (.cons rfl rfl (.cons rfl rfl (.cons rfl rfl (.cons rfl rfl (.cons rfl rfl (.cons rfl rfl (.cons rfl rfl (.cons rfl rfl (.cons rfl rfl (.cons rfl rfl (.cons rfl rfl (.cons rfl rfl (.cons rfl rfl .nil)))))))))))))))
            · exact fun h s => SubC.out h s
          · skip
            refine JMi.eff rfl rfl rfl rfl (m' := 27583) rfl (Eff.make boE false rfl rfl rfl rfl rfl (by decide) (by omega) (by omega)) ?_
            rintro _ _ ⟨b101, rfl, rfl⟩
            refine ⟨.inr (fun _ h => h.tail.tail.tail), ?_⟩
            have H := H27583 (b91, a93, c93, b95, b97, b99, b101)
            dsimp only at H
            refine JM.weaken ?_ ?_ H
            · exact (.cons rfl rfl (.cons rfl rfl (.cons rfl rfl (.cons rfl rfl (.cons rfl rfl (.cons rfl rfl (.cons rfl rfl (.cons rfl rfl (.cons rfl rfl (.cons rfl rfl (.cons rfl rfl (.cons rfl rfl (.cons rfl rfl (.cons rfl rfl (.cons rfl rfl .nil)))))))))))))))
            · exact fun h s => SubC.out h s
        refine JM.cut (ι := Nat × Option Addr × Nat × Nat × Nat × Nat × Nat) (fuel1 := 7) (m1 := 11967) (fun x => [(91, .slice (some ⟨x.1, 0, none⟩) 0 0), (97, .slice (some ⟨x.2.2.2.2.1, 0, none⟩) vs.length vs.length), (0, .string k), (2, .int .i64 root), (10, .int .i64 (vs.length : Int)), (87, .string k), (88, .string o), (89, .int .i64 root), (90, .int .i64 (vs.length : Int)), (92, .slice va vs.length cap), (94, .int .i64 (vs.length : Int)), (96, .int .i64 (vs.length : Int)), (98, .int .i64 (vs.length : Int)), (100, .int .i64 (vs.length : Int))]) (fun x => sl intE (some ⟨x.1, 0, none⟩) 0 [] :: sl grE (some ⟨x.2.2.2.2.1, 0, none⟩) vs.length (List.replicate vs.length ((none, 0), [])) :: L) (fun x => ?_) (fun H11967 => ?_)
        · obtain ⟨b91, a93, c93, b95, b97, b99, b101⟩ := x
          dsimp only
          refine JM.many (rs := [6, 8, 12, 14]) (by kernel_rfl) rfl (fun i hi => ?_)
          simp only [List.mem_cons, List.not_mem_nil, or_false] at hi
          rcases hi with rfl | rfl | rfl | rfl
          · skip
            refine JMi.eff rfl rfl rfl rfl (m' := 12031) rfl (Eff.append rfl rfl rfl rfl (by first | rfl | omega | (simp; done) | (simp; omega)) (by first | rfl | omega | (simp; done) | (simp; omega)) (by decide) (by simp; omega) (by simp; omega) (fun h => absurd h hva)) ?_
            rintro _ _ ⟨a93, c93, rfl, rfl⟩
            refine ⟨.inr (fun _ h => h.tail.tail), ?_⟩
            refine JM.setv (u' := .slice a93 vs.length c93) 93 rfl (by simp) ?_
            rw [List.nil_append]
            have H := H12031 (b91, a93, c93, b95, b97, b99, b101)
            dsimp only at H
            refine JM.weaken ?_ ?_ H
            · exact (.cons rfl rfl (.cons rfl rfl (.cons rfl rfl (.cons rfl rfl (.cons rfl rfl (.cons rfl rfl (.cons rfl rfl (.cons rfl rfl (.cons rfl rfl (.cons rfl rfl (.cons rfl rfl (.cons rfl rfl (.cons rfl rfl (.cons rfl rfl (.cons rfl rfl .nil)))))))))))))))
            · exact fun h s => SubC.out h s
          · skip
            refine JMi.eff rfl rfl rfl rfl (m' := 12223) rfl (Eff.make boE false rfl rfl rfl rfl rfl (by decide) (by omega) (by omega)) ?_
            rintro _ _ ⟨b95, rfl, rfl⟩
            refine ⟨.inr (fun _ h => h.tail.tail.tail), ?_⟩
            have H := H12223 (b91, a93, c93, b95, b97, b99, b101)
            dsimp only at H
            refine JM.weaken ?_ ?_ H
            · exact (.cons rfl rfl (.cons rfl rfl (.cons rfl rfl (.cons rfl rfl (.cons rfl rfl (.cons rfl rfl (.cons rfl rfl (.cons rfl rfl (.cons rfl rfl (.cons rfl rfl (.cons rfl rfl (.cons rfl rfl (.cons rfl rfl (.cons rfl rfl (.cons rfl rfl .nil)))))))))))))))
            · exact fun h s => SubC.out h s
          · skip
            refine JMi.eff rfl rfl rfl rfl (m' := 16063) rfl (Eff.make natE 0 rfl rfl rfl rfl rfl (by decide) (by omega) (by omega)) ?_
            rintro _ _ ⟨b99, rfl, rfl⟩
            refine ⟨.inr (fun _ h => h.tail.tail.tail), ?_⟩
            have H := H16063 (b91, a93, c93, b95, b97, b99, b101)
            dsimp only at H
            refine JM.weaken ?_ ?_ H
            · exact (.cons rfl rfl (.cons rfl rfl (.cons rfl rfl (.cons rfl rfl (.cons rfl rfl (.cons rfl rfl (.cons rfl rfl (.cons rfl rfl (.cons rfl rfl (.cons rfl rfl (.cons rfl rfl (.cons rfl rfl (.cons rfl rfl (.cons rfl rfl (.cons rfl rfl .nil)))))))))))))))
            · exact fun h s => SubC.out h s
          · skip
            refine JMi.eff rfl rfl rfl rfl (m' := 28351) rfl (Eff.make boE false rfl rfl rfl rfl rfl (by decide) (by omega) (by omega)) ?_
            rintro _ _ ⟨b101, rfl, rfl⟩
            refine ⟨.inr (fun _ h => h.tail.tail.tail), ?_⟩
            have H := H28351 (b91, a93, c93, b95, b97, b99, b101)
            dsimp only at H
            refine JM.weaken ?_ ?_ H
            · exact (.cons rfl rfl (.cons rfl rfl (.cons rfl rfl (.cons rfl rfl (.cons rfl rfl (.cons rfl rfl (.cons rfl rfl (.cons rfl rfl (.cons rfl rfl (.cons rfl rfl (.cons rfl rfl (.cons rfl rfl (.cons rfl rfl (.cons rfl rfl (.cons rfl rfl .nil)))))))))))))))
            · exact fun h s => SubC.out h s
        refine JM.cut (ι := Nat × Option Addr × Nat × Nat × Nat × Nat × Nat) (fuel1 := 7) (m1 := 15039) (fun x => [(91, .slice (some ⟨x.1, 0, none⟩) 0 0), (99, .slice (some ⟨x.2.2.2.2.2.1, 0, none⟩) vs.length vs.length), (0, .string k), (2, .int .i64 root), (10, .int .i64 (vs.length : Int)), (87, .string k), (88, .string o), (89, .int .i64 root), (90, .int .i64 (vs.length : Int)), (92, .slice va vs.length cap), (94, .int .i64 (vs.length : Int)), (96, .int .i64 (vs.length : Int)), (98, .int .i64 (vs.length : Int)), (100, .int .i64 (vs.length : Int))]) (fun x => sl intE (some ⟨x.1, 0, none⟩) 0 [] :: sl natE (some ⟨x.2.2.2.2.2.1, 0, none⟩) vs.length (List.replicate vs.length 0) :: L) (fun x => ?_) (fun H15039 => ?_)
        · obtain ⟨b91, a93, c93, b95, b97, b99, b101⟩ := x
          dsimp only
          refine JM.many (rs := [6, 8, 10, 14]) (by kernel_rfl) rfl (fun i hi => ?_)
          simp only [List.mem_cons, List.not_mem_nil, or_false] at hi
          rcases hi with rfl | rfl | rfl | rfl
          · skip
            refine JMi.eff rfl rfl rfl rfl (m' := 15103) rfl (Eff.append rfl rfl rfl rfl (by first | rfl | omega | (simp; done) | (simp; omega)) (by first | rfl | omega | (simp; done) | (simp; omega)) (by decide) (by simp; omega) (by simp; omega) (fun h => absurd h hva)) ?_
            rintro _ _ ⟨a93, c93, rfl, rfl⟩
            refine ⟨.inr (fun _ h => h.tail.tail), ?_⟩
            refine JM.setv (u' := .slice a93 vs.length c93) 93 rfl (by simp) ?_
            rw [List.nil_append]
            have H := H15103 (b91, a93, c93, b95, b97, b99, b101)
            dsimp only at H
            refine JM.weaken ?_ ?_ H
            · exact (.cons rfl rfl (.cons rfl rfl (.cons rfl rfl (.cons rfl rfl (.cons rfl rfl (.cons rfl rfl (.cons rfl rfl (.cons rfl rfl (.cons rfl rfl (.cons rfl rfl (.cons rfl rfl (.cons rfl rfl (.cons rfl rfl (.cons rfl rfl (.cons rfl rfl .nil)))))))))))))))
            · exact fun h s => SubC.out h s
          · skip
            refine JMi.eff rfl rfl rfl rfl (m' := 15295) rfl (Eff.make boE false rfl rfl rfl rfl rfl (by decide) (by omega) (by omega)) ?_
            rintro _ _ ⟨b95, rfl, rfl⟩
            refine ⟨.inr (fun _ h => h.tail.tail.tail), ?_⟩
            have H := H15295 (b91, a93, c93, b95, b97, b99, b101)
            dsimp only at H
            refine JM.weaken ?_ ?_ H
            · exact (.cons rfl rfl (.cons rfl rfl (.cons rfl rfl (.cons rfl rfl (.cons rfl rfl (.cons rfl rfl (.cons rfl rfl (.cons rfl rfl (.cons rfl rfl (.cons rfl rfl (.cons rfl rfl (.cons rfl rfl (.cons rfl rfl (.cons rfl rfl (.cons rfl rfl .nil)))))))))))))))
            · exact fun h s => SubC.out h s
          · skip
            refine JMi.eff rfl rfl rfl rfl (m' := 16063) rfl (Eff.make grE ((none, 0), []) rfl rfl rfl rfl rfl (by decide) (by omega) (by omega)) ?_
            rintro _ _ ⟨b97, rfl, rfl⟩
            refine ⟨.inr (fun _ h => h.tail.tail.tail), ?_⟩
            have H := H16063 (b91, a93, c93, b95, b97, b99, b101)
            dsimp only at H
            refine JM.weaken ?_ ?_ H
            · exact (.cons rfl rfl (.cons rfl rfl (.cons rfl rfl (.cons rfl rfl (.cons rfl rfl (.cons rfl rfl (.cons rfl rfl (.cons rfl rfl (.cons rfl rfl (.cons rfl rfl (.cons rfl rfl (.cons rfl rfl (.cons rfl rfl (.cons rfl rfl (.cons rfl rfl .nil)))))))))))))))
            · exact fun h s => SubC.out h s
          · skip
            refine JMi.eff rfl rfl rfl rfl (m' := 31423) rfl (Eff.make boE false rfl rfl rfl rfl rfl (by decide) (by omega) (by omega)) ?_
            rintro _ _ ⟨b101, rfl, rfl⟩
            refine ⟨.inr (fun _ h => h.tail.tail.tail), ?_⟩
            have H := H31423 (b91, a93, c93, b95, b97, b99, b101)
            dsimp only at H
            refine JM.weaken ?_ ?_ H
            · exact (.cons rfl rfl (.cons rfl rfl (.cons rfl rfl (.cons rfl rfl (.cons rfl rfl (.cons rfl rfl (.cons rfl rfl (.cons rfl rfl (.cons rfl rfl (.cons rfl rfl (.cons rfl rfl (.cons rfl rfl (.cons rfl rfl (.cons rfl rfl (.cons rfl rfl .nil)))))))))))))))
            · exact fun h s => SubC.out h s
        refine JM.cut (ι := Nat × Option Addr × Nat × Nat × Nat × Nat × Nat) (fuel1 := 7) (m1 := 27327) (fun x => [(91, .slice (some ⟨x.1, 0, none⟩) 0 0), (101, .slice (some ⟨x.2.2.2.2.2.2, 0, none⟩) vs.length vs.length), (0, .string k), (2, .int .i64 root), (10, .int .i64 (vs.length : Int)), (87, .string k), (88, .string o), (89, .int .i64 root), (90, .int .i64 (vs.length : Int)), (92, .slice va vs.length cap), (94, .int .i64 (vs.length : Int)), (96, .int .i64 (vs.length : Int)), (98, .int .i64 (vs.length : Int)), (100, .int .i64 (vs.length : Int))]) (fun x => sl intE (some ⟨x.1, 0, none⟩) 0 [] :: sl boE (some ⟨x.2.2.2.2.2.2, 0, none⟩) vs.length (List.replicate vs.length false) :: L) (fun x => ?_) (fun H27327 => ?_)
        · obtain ⟨b91, a93, c93, b95, b97, b99, b101⟩ := x
          dsimp only
          refine JM.many (rs := [6, 8, 10, 12]) (by kernel_rfl) rfl (fun i hi => ?_)
          simp only [List.mem_cons, List.not_mem_nil, or_false] at hi
          rcases hi with rfl | rfl | rfl | rfl
          · skip
            refine JMi.eff rfl rfl rfl rfl (m' := 27391) rfl (Eff.append rfl rfl rfl rfl (by first | rfl | omega | (simp; done) | (simp; omega)) (by first | rfl | omega | (simp; done) | (simp; omega)) (by decide) (by simp; omega) (by simp; omega) (fun h => absurd h hva)) ?_
            rintro _ _ ⟨a93, c93, rfl, rfl⟩
            refine ⟨.inr (fun _ h => h.tail.tail), ?_⟩
            refine JM.setv (u' := .slice a93 vs.length c93) 93 rfl (by simp) ?_
            rw [List.nil_append]
            have H := H27391 (b91, a93, c93, b95, b97, b99, b101)
            dsimp only at H
            refine JM.weaken ?_ ?_ H
            · exact (.cons rfl rfl (.cons rfl rfl (.cons rfl rfl (.cons rfl rfl (.cons rfl rfl (.cons rfl rfl (.cons rfl rfl (.cons rfl rfl (.cons rfl rfl (.cons rfl rfl (.cons rfl rfl (.cons rfl rfl (.cons rfl rfl (.cons rfl rfl (.cons rfl rfl .nil)))))))))))))))
            · exact fun h s => SubC.out h s
          · skip
            refine JMi.eff rfl rfl rfl rfl (m' := 27583) rfl (Eff.make boE false rfl rfl rfl rfl rfl (by decide) (by omega) (by omega)) ?_
            rintro _ _ ⟨b95, rfl, rfl⟩
            refine ⟨.inr (fun _ h => h.tail.tail.tail), ?_⟩
            have H := H27583 (b91, a93, c93, b95, b97, b99, b101)
            dsimp only at H
            refine JM.weaken ?_ ?_ H
            · exact (.cons rfl rfl (.cons rfl rfl (.cons rfl rfl (.cons rfl rfl (.cons rfl rfl (.cons rfl rfl (.cons rfl rfl (.cons rfl rfl (.cons rfl rfl (.cons rfl rfl (.cons rfl rfl (.cons rfl rfl (.cons rfl rfl (.cons rfl rfl (.cons rfl rfl .nil)))))))))))))))
            · exact fun h s => SubC.out h s
          · skip
            refine JMi.eff rfl rfl rfl rfl (m' := 28351) rfl (Eff.make grE ((none, 0), []) rfl rfl rfl rfl rfl (by decide) (by omega) (by omega)) ?_
            rintro _ _ ⟨b97, rfl, rfl⟩
            refine ⟨.inr (fun _ h => h.tail.tail.tail), ?_⟩
            have H := H28351 (b91, a93, c93, b95, b97, b99, b101)
            dsimp only at H
            refine JM.weaken ?_ ?_ H
            · exact (.cons rfl rfl (.cons rfl rfl (.cons rfl rfl (.cons rfl rfl (.cons rfl rfl (.cons rfl rfl (.cons rfl rfl (.cons rfl rfl (.cons rfl rfl (.cons rfl rfl (.cons rfl rfl (.cons rfl rfl (.cons rfl rfl (.cons rfl rfl (.cons rfl rfl .nil)))))))))))))))
            · exact fun h s => SubC.out h s
          · skip
            refine JMi.eff rfl rfl rfl rfl (m' := 31423) rfl (Eff.make natE 0 rfl rfl rfl rfl rfl (by decide) (by omega) (by omega)) ?_
            rintro _ _ ⟨b99, rfl, rfl⟩
            refine ⟨.inr (fun _ h => h.tail.tail.tail), ?_⟩
            have H := H31423 (b91, a93, c93, b95, b97, b99, b101)
            dsimp only at H
            refine JM.weaken ?_ ?_ H
            · exact (.cons rfl rfl (.cons rfl rfl (.cons rfl rfl (.cons rfl rfl (.cons rfl rfl (.cons rfl rfl (.cons rfl rfl (.cons rfl rfl (.cons rfl rfl (.cons rfl rfl (.cons rfl rfl (.cons rfl rfl (.cons rfl rfl (.cons rfl rfl (.cons rfl rfl .nil)))))))))))))))
            · exact fun h s => SubC.out h s
        refine JM.cut (ι := Nat × Option Addr × Nat × Nat × Nat × Nat × Nat) (fuel1 := 7) (m1 := 12207) (fun x => [(95, .slice (some ⟨x.2.2.2.1, 0, none⟩) vs.length vs.length), (97, .slice (some ⟨x.2.2.2.2.1, 0, none⟩) vs.length vs.length), (0, .string k), (2, .int .i64 root), (10, .int .i64 (vs.length : Int)), (87, .string k), (88, .string o), (89, .int .i64 root), (90, .int .i64 (vs.length : Int)), (92, .slice va vs.length cap), (94, .int .i64 (vs.length : Int)), (96, .int .i64 (vs.length : Int)), (98, .int .i64 (vs.length : Int)), (100, .int .i64 (vs.length : Int))]) (fun x => sl boE (some ⟨x.2.2.2.1, 0, none⟩) vs.length (List.replicate vs.length false) :: sl grE (some ⟨x.2.2.2.2.1, 0, none⟩) vs.length (List.replicate vs.length ((none, 0), [])) :: L) (fun x => ?_) (fun H12207 => ?_)
        · obtain ⟨b91, a93, c93, b95, b97, b99, b101⟩ := x
          dsimp only
          refine JM.many (rs := [4, 12, 14]) (by kernel_rfl) rfl (fun i hi => ?_)
          simp only [List.mem_cons, List.not_mem_nil, or_false] at hi
          rcases hi with rfl | rfl | rfl
          · skip
            refine JMi.eff rfl rfl rfl rfl (m' := 12223) rfl (Eff.buildSlice intE [] rfl rfl rfl rfl rfl rfl rfl) ?_
            rintro _ _ ⟨b91, rfl, -, rfl⟩
            refine ⟨.inr (fun _ h => h.tail.tail.tail), ?_⟩
            have H := H12223 (b91, a93, c93, b95, b97, b99, b101)
            dsimp only at H
            refine JM.weaken ?_ ?_ H
            · exact (.cons rfl rfl (.cons rfl rfl (.cons rfl rfl (.cons rfl rfl (.cons rfl rfl (.cons rfl rfl (.cons rfl rfl (.cons rfl rfl (.cons rfl rfl (.cons rfl rfl (.cons rfl rfl (.cons rfl rfl (.cons rfl rfl (.cons rfl rfl (.cons rfl rfl .nil)))))))))))))))
            · exact fun h s => SubC.out h s
          · skip
            refine JMi.eff rfl rfl rfl rfl (m' := 16303) rfl (Eff.make natE 0 rfl rfl rfl rfl rfl (by decide) (by omega) (by omega)) ?_
            rintro _ _ ⟨b99, rfl, rfl⟩
            refine ⟨.inr (fun _ h => h.tail.tail.tail), ?_⟩
            have H := H16303 (b91, a93, c93, b95, b97, b99, b101)
            dsimp only at H
            refine JM.weaken ?_ ?_ H
            · exact (.cons rfl rfl (.cons rfl rfl (.cons rfl rfl (.cons rfl rfl (.cons rfl rfl (.cons rfl rfl (.cons rfl rfl (.cons rfl rfl (.cons rfl rfl (.cons rfl rfl (.cons rfl rfl (.cons rfl rfl (.cons rfl rfl (.cons rfl rfl (.cons rfl rfl .nil)))))))))))))))
            · exact fun h s => SubC.out h s
          · skip
            refine JMi.eff rfl rfl rfl rfl (m' := 28591) rfl (Eff.make boE false rfl rfl rfl rfl rfl (by decide) (by omega) (by omega)) ?_
            rintro _ _ ⟨b101, rfl, rfl⟩
            refine ⟨.inr (fun _ h => h.tail.tail.tail), ?_⟩
            have H := H28591 (b91, a93, c93, b95, b97, b99, b101)
            dsimp only at H
            refine JM.weaken ?_ ?_ H
            · exact (.cons rfl rfl (.cons rfl rfl (.cons rfl rfl (.cons rfl rfl (.cons rfl rfl (.cons rfl rfl (.cons rfl rfl (.cons rfl rfl (.cons rfl rfl (.cons rfl rfl (.cons rfl rfl (.cons rfl rfl (.cons rfl rfl (.cons rfl rfl (.cons rfl rfl .nil)))))))))))))))
            · exact fun h s => SubC.out h s
        refine JM.cut (ι := Nat × Option Addr × Nat × Nat × Nat × Nat × Nat) (fuel1 := 7) (m1 := 15279) (fun x => [(95, .slice (some ⟨x.2.2.2.1, 0, none⟩) vs.length vs.length), (99, .slice (some ⟨x.2.2.2.2.2.1, 0, none⟩) vs.length vs.length), (0, .string k), (2, .int .i64 root), (10, .int .i64 (vs.length : Int)), (87, .string k), (88, .string o), (89, .int .i64 root), (90, .int .i64 (vs.length : Int)), (92, .slice va vs.length cap), (94, .int .i64 (vs.length : Int)), (96, .int .i64 (vs.length : Int)), (98, .int .i64 (vs.length : Int)), (100, .int .i64 (vs.length : Int))]) (fun x => sl boE (some ⟨x.2.2.2.1, 0, none⟩) vs.length (List.replicate vs.length false) :: sl natE (some ⟨x.2.2.2.2.2.1, 0, none⟩) vs.length (List.replicate vs.length 0) :: L) (fun x => ?_) (fun H15279 => ?_)
        · obtain ⟨b91, a93, c93, b95, b97, b99, b101⟩ := x
          dsimp only
          refine JM.many (rs := [4, 10, 14]) (by kernel_rfl) rfl (fun i hi => ?_)
          simp only [List.mem_cons, List.not_mem_nil, or_false] at hi
          rcases hi with rfl | rfl | rfl
          · skip
            refine JMi.eff rfl rfl rfl rfl (m' := 15295) rfl (Eff.buildSlice intE [] rfl rfl rfl rfl rfl rfl rfl) ?_
            rintro _ _ ⟨b91, rfl, -, rfl⟩
            refine ⟨.inr (fun _ h => h.tail.tail.tail), ?_⟩
            have H := H15295 (b91, a93, c93, b95, b97, b99, b101)
            dsimp only at H
            refine JM.weaken ?_ ?_ H
            · exact (.cons rfl rfl (.cons rfl rfl (.cons rfl rfl (.cons rfl rfl (.cons rfl rfl (.cons rfl rfl (.cons rfl rfl (.cons rfl rfl (.cons rfl rfl (.cons rfl rfl (.cons rfl rfl (.cons rfl rfl (.cons rfl rfl (.cons rfl rfl (.cons rfl rfl .nil)))))))))))))))
            · exact fun h s => SubC.out h s
          · skip
            refine JMi.eff rfl rfl rfl rfl (m' := 16303) rfl (Eff.make grE ((none, 0), []) rfl rfl rfl rfl rfl (by decide) (by omega) (by omega)) ?_
            rintro _ _ ⟨b97, rfl, rfl⟩
            refine ⟨.inr (fun _ h => h.tail.tail.tail), ?_⟩
            have H := H16303 (b91, a93, c93, b95, b97, b99, b101)
            dsimp only at H
            refine JM.weaken ?_ ?_ H
            · exact (.cons rfl rfl (.cons rfl rfl (.cons rfl rfl (.cons rfl rfl (.cons rfl rfl (.cons rfl rfl (.cons rfl rfl (.cons rfl rfl (.cons rfl rfl (.cons rfl rfl (.cons rfl rfl (.cons rfl rfl (.cons rfl rfl (.cons rfl rfl (.cons rfl rfl .nil)))))))))))))))
            · exact fun h s => SubC.out h s
          · skip
            refine JMi.eff rfl rfl rfl rfl (m' := 31663) rfl (Eff.make boE false rfl rfl rfl rfl rfl (by decide) (by omega) (by omega)) ?_
            rintro _ _ ⟨b101, rfl, rfl⟩
            refine ⟨.inr (fun _ h => h.tail.tail.tail), ?_⟩
            have H := H31663 (b91, a93, c93, b95, b97, b99, b101)
            dsimp only at H
            refine JM.weaken ?_ ?_ H
            · exact (.cons rfl rfl (.cons rfl rfl (.cons rfl rfl (.cons rfl rfl (.cons rfl rfl (.cons rfl rfl (.cons rfl rfl (.cons rfl rfl (.cons rfl rfl (.cons rfl rfl (.cons rfl rfl (.cons rfl rfl (.cons rfl rfl (.cons rfl rfl (.cons rfl rfl .nil)))))))))))))))
            · exact fun h s => SubC.out h s
        refine JM.cut (ι := Nat × Option Addr × Nat × Nat × Nat × Nat × Nat) (fuel1 := 7) (m1 := 27567) (fun x => [(95, .slice (some ⟨x.2.2.2.1, 0, none⟩) vs.length vs.length), (101, .slice (some ⟨x.2.2.2.2.2.2, 0, none⟩) vs.length vs.length), (0, .string k), (2, .int .i64 root), (10, .int .i64 (vs.length : Int)), (87, .string k), (88, .string o), (89, .int .i64 root), (90, .int .i64 (vs.length : Int)), (92, .slice va vs.length cap), (94, .int .i64 (vs.length : Int)), (96, .int .i64 (vs.length : Int)), (98, .int .i64 (vs.length : Int)), (100, .int .i64 (vs.length : Int))]) (fun x => sl boE (some ⟨x.2.2.2.1, 0, none⟩) vs.length (List.replicate vs.length false) :: sl boE (some ⟨x.2.2.2.2.2.2, 0, none⟩) vs.length (List.replicate vs.length false) :: L) (fun x => ?_) (fun H27567 => ?_)
        · obtain ⟨b91, a93, c93, b95, b97, b99, b101⟩ := x
          dsimp only
          refine JM.many (rs := [4, 10, 12]) (by kernel_rfl) rfl (fun i hi => ?_)
          simp only [List.mem_cons, List.not_mem_nil, or_false] at hi
          rcases hi with rfl | rfl | rfl
          · skip
            refine JMi.eff rfl rfl rfl rfl (m' := 27583) rfl (Eff.buildSlice intE [] rfl rfl rfl rfl rfl rfl rfl) ?_
            rintro _ _ ⟨b91, rfl, -, rfl⟩
            refine ⟨.inr (fun _ h => h.tail.tail.tail), ?_⟩
            have H := H27583 (b91, a93, c93, b95, b97, b99, b101)
            dsimp only at H
            refine JM.weaken ?_ ?_ H
            · exact (.cons rfl rfl (.cons rfl rfl (.cons rfl rfl (.cons rfl rfl (.cons rfl rfl (.cons rfl rfl (.cons rfl rfl (.cons rfl rfl (.cons rfl rfl (.cons rfl rfl (.cons rfl rfl (.cons rfl rfl (.cons rfl rfl (.cons rfl rfl (.cons rfl rfl .nil)))))))))))))))
            · exact fun h s => SubC.out h s
          · skip
            refine JMi.eff rfl rfl rfl rfl (m' := 28591) rfl (Eff.make grE ((none, 0), []) rfl rfl rfl rfl rfl (by decide) (by omega) (by omega)) ?_
            rintro _ _ ⟨b97, rfl, rfl⟩
            refine ⟨.inr (fun _ h => h.tail.tail.tail), ?_⟩
            have H := H28591 (b91, a93, c93, b95, b97, b99, b101)
            dsimp only at H
            refine JM.weaken ?_ ?_ H
            · exact (.cons rfl rfl (.cons rfl rfl (.cons rfl rfl (.cons rfl rfl (.cons rfl rfl (.cons rfl rfl (.cons rfl rfl (.cons rfl rfl (.cons rfl rfl (.cons rfl rfl (.cons rfl rfl (.cons rfl rfl (.cons rfl rfl (.cons rfl rfl (.cons rfl rfl .nil)))))))))))))))
            · exact fun h s => SubC.out h s
          · skip
            refine JMi.eff rfl rfl rfl rfl (m' := 31663) rfl (Eff.make natE 0 rfl rfl rfl rfl rfl (by decide) (by omega) (by omega)) ?_
            rintro _ _ ⟨b99, rfl, rfl⟩
            refine ⟨.inr (fun _ h => h.tail.tail.tail), ?_⟩
            have H := H31663 (b91, a93, c93, b95, b97, b99, b101)
            dsimp only at H
            refine JM.weaken ?_ ?_ H
            · exact (.cons rfl rfl (.cons rfl rfl (.cons rfl rfl (.cons rfl rfl (.cons rfl rfl (.cons rfl rfl (.cons rfl rfl (.cons rfl rfl (.cons rfl rfl (.cons rfl rfl (.cons rfl rfl (.cons rfl rfl (.cons rfl rfl (.cons rfl rfl (.cons rfl rfl .nil)))))))))))))))
            · exact fun h s => SubC.out h s
        refine JM.cut (ι := Nat × Option Addr × Nat × Nat × Nat × Nat × Nat) (fuel1 := 7) (m1 := 16047) (fun x => [(97, .slice (some ⟨x.2.2.2.2.1, 0, none⟩) vs.length vs.length), (99, .slice (some ⟨x.2.2.2.2.2.1, 0, none⟩) vs.length vs.length), (0, .string k), (2, .int .i64 root), (10, .int .i64 (vs.length : Int)), (87, .string k), (88, .string o), (89, .int .i64 root), (90, .int .i64 (vs.length : Int)), (92, .slice va vs.length cap), (94, .int .i64 (vs.length : Int)), (96, .int .i64 (vs.length : Int)), (98, .int .i64 (vs.length : Int)), (100, .int .i64 (vs.length : Int))]) (fun x => sl grE (some ⟨x.2.2.2.2.1, 0, none⟩) vs.length (List.replicate vs.length ((none, 0), [])) :: sl natE (some ⟨x.2.2.2.2.2.1, 0, none⟩) vs.length (List.replicate vs.length 0) :: L) (fun x => ?_) (fun H16047 => ?_)
        · obtain ⟨b91, a93, c93, b95, b97, b99, b101⟩ := x
          dsimp only
          refine JM.many (rs := [4, 8, 14]) (by kernel_rfl) rfl (fun i hi => ?_)
          simp only [List.mem_cons, List.not_mem_nil, or_false] at hi
          rcases hi with rfl | rfl | rfl
          · skip
            refine JMi.eff rfl rfl rfl rfl (m' := 16063) rfl (Eff.buildSlice intE [] rfl rfl rfl rfl rfl rfl rfl) ?_
            rintro _ _ ⟨b91, rfl, -, rfl⟩
            refine ⟨.inr (fun _ h => h.tail.tail.tail), ?_⟩
            have H := H16063 (b91, a93, c93, b95, b97, b99, b101)
            dsimp only at H
            refine JM.weaken ?_ ?_ H
            · exact (.cons rfl rfl (.cons rfl rfl (.cons rfl rfl (.cons rfl rfl (.cons rfl rfl (.cons rfl rfl (.cons rfl rfl (.cons rfl rfl (.cons rfl rfl (.cons rfl rfl (.cons rfl rfl (.cons rfl rfl (.cons rfl rfl (.cons rfl rfl (.cons rfl rfl .nil)))))))))))))))
            · exact fun h s => SubC.out h s
          · skip
            refine JMi.eff rfl rfl rfl rfl (m' := 16303) rfl (Eff.make boE false rfl rfl rfl rfl rfl (by decide) (by omega) (by omega)) ?_
            rintro _ _ ⟨b95, rfl, rfl⟩
            refine ⟨.inr (fun _ h => h.tail.tail.tail), ?_⟩
            have H := H16303 (b91, a93, c93, b95, b97, b99, b101)
            dsimp only at H
            refine JM.weaken ?_ ?_ H
            · exact (.cons rfl rfl (.cons rfl rfl (.cons rfl rfl (.cons rfl rfl (.cons rfl rfl (.cons rfl rfl (.cons rfl rfl (.cons rfl rfl (.cons rfl rfl (.cons rfl rfl (.cons rfl rfl (.cons rfl rfl (.cons rfl rfl (.cons rfl rfl (.cons rfl rfl .nil)))))))))))))))
            · exact fun h s => SubC.out h s
          · skip
            refine JMi.eff rfl rfl rfl rfl (m' := 32431) rfl (Eff.make boE false rfl rfl rfl rfl rfl (by decide) (by omega) (by omega)) ?_
            rintro _ _ ⟨b101, rfl, rfl⟩
            refine ⟨.inr (fun _ h => h.tail.tail.tail), ?_⟩
            have H := H32431 (b91, a93, c93, b95, b97, b99, b101)
            dsimp only at H
            refine JM.weaken ?_ ?_ H
            · exact (.cons rfl rfl (.cons rfl rfl (.cons rfl rfl (.cons rfl rfl (.cons rfl rfl (.cons rfl rfl (.cons rfl rfl (.cons rfl rfl (.cons rfl rfl (.cons rfl rfl (.cons rfl rfl (.cons rfl rfl (.cons rfl rfl (.cons rfl rfl (.cons rfl rfl .nil)))))))))))))))
            · exact fun h s => SubC.out h s
        refine JM.cut (ι := Nat × Option Addr × Nat × Nat × Nat × Nat × Nat) (fuel1 := 7) (m1 := 28335) (fun x => [(97, .slice (some ⟨x.2.2.2.2.1, 0, none⟩) vs.length vs.length), (101, .slice (some ⟨x.2.2.2.2.2.2, 0, none⟩) vs.length vs.length), (0, .string k), (2, .int .i64 root), (10, .int .i64 (vs.length : Int)), (87, .string k), (88, .string o), (89, .int .i64 root), (90, .int .i64 (vs.length : Int)), (92, .slice va vs.length cap), (94, .int .i64 (vs.length : Int)), (96, .int .i64 (vs.length : Int)), (98, .int .i64 (vs.length : Int)), (100, .int .i64 (vs.length : Int))]) (fun x => sl grE (some ⟨x.2.2.2.2.1, 0, none⟩) vs.length (List.replicate vs.length ((none, 0), [])) :: sl boE (some ⟨x.2.2.2.2.2.2, 0, none⟩) vs.length (List.replicate vs.length false) :: L) (fun x => ?_) (fun H28335 => ?_)
        · obtain ⟨b91, a93, c93, b95, b97, b99, b101⟩ := x
          dsimp only
          refine JM.many (rs := [4, 8, 12]) (by kernel_rfl) rfl (fun i hi => ?_)
          simp only [List.mem_cons, List.not_mem_nil, or_false] at hi
          rcases hi with rfl | rfl | rfl
          · skip
            refine JMi.eff rfl rfl rfl rfl (m' := 28351) rfl (Eff.buildSlice intE [] rfl rfl rfl rfl rfl rfl rfl) ?_
            rintro _ _ ⟨b91, rfl, -, rfl⟩
            refine ⟨.inr (fun _ h => h.tail.tail.tail), ?_⟩
            have H := H28351 (b91, a93, c93, b95, b97, b99, b101)
            dsimp only at H
            refine JM.weaken ?_ ?_ H
            · exact (.cons rfl rfl (.cons rfl rfl (.cons rfl rfl (.cons rfl rfl (.cons rfl rfl (.cons rfl rfl (.cons rfl rfl (.cons rfl rfl (.cons rfl rfl (.cons rfl rfl (.cons rfl rfl (.cons rfl rfl (.cons rfl rfl (.cons rfl rfl (.cons rfl rfl .nil)))))))))))))))
            · exact fun h s => SubC.out h s
          · skip
            refine JMi.eff rfl rfl rfl rfl (m' := 28591) rfl (Eff.make boE false rfl rfl rfl rfl rfl (by decide) (by omega) (by omega)) ?_
            rintro _ _ ⟨b95, rfl, rfl⟩
            refine ⟨.inr (fun _ h => h.tail.tail.tail), ?_⟩
            have H := H28591 (b91, a93, c93, b95, b97, b99, b101)
            dsimp only at H
            refine JM.weaken ?_ ?_ H
            · exact (.cons rfl rfl (.cons rfl rfl (.cons rfl rfl (.cons rfl rfl (.cons rfl rfl (.cons rfl rfl (.cons rfl rfl (.cons rfl rfl (.cons rfl rfl (.cons rfl rfl (.cons rfl rfl (.cons rfl rfl (.cons rfl rfl (.cons rfl rfl (.cons rfl rfl .nil)))))))))))))))
            · exact fun h s => SubC.out h s
          · skip
            refine JMi.eff rfl rfl rfl rfl (m' := 32431) rfl (Eff.make natE 0 rfl rfl rfl rfl rfl (by decide) (by omega) (by omega)) ?_
            rintro _ _ ⟨b99, rfl, rfl⟩
            refine ⟨.inr (fun _ h => h.tail.tail.tail), ?_⟩
            have H := H32431 (b91, a93, c93, b95, b97, b99, b101)
            dsimp only at H
            refine JM.weaken ?_ ?_ H
            · exact (.cons rfl rfl (.cons rfl rfl (.cons rfl rfl (.cons rfl rfl (.cons rfl rfl (.cons rfl rfl (.cons rfl rfl (.cons rfl rfl (.cons rfl rfl (.cons rfl rfl (.cons rfl rfl (.cons rfl rfl (.cons rfl rfl (.cons rfl rfl (.cons rfl rfl .nil)))))))))))))))
            · exact fun h s => SubC.out h s
        refine JM.cut (ι := Nat × Option Addr × Nat × Nat × Nat × Nat × Nat) (fuel1 := 7) (m1 := 31407) (fun x => [(99, .slice (some ⟨x.2.2.2.2.2.1, 0, none⟩) vs.length vs.length), (101, .slice (some ⟨x.2.2.2.2.2.2, 0, none⟩) vs.length vs.length), (0, .string k), (2, .int .i64 root), (10, .int .i64 (vs.length : Int)), (87, .string k), (88, .string o), (89, .int .i64 root), (90, .int .i64 (vs.length : Int)), (92, .slice va vs.length cap), (94, .int .i64 (vs.length : Int)), (96, .int .i64 (vs.length : Int)), (98, .int .i64 (vs.length : Int)), (100, .int .i64 (vs.length : Int))]) (fun x => sl natE (some ⟨x.2.2.2.2.2.1, 0, none⟩) vs.length (List.replicate vs.length 0) :: sl boE (some ⟨x.2.2.2.2.2.2, 0, none⟩) vs.length (List.replicate vs.length false) :: L) (fun x => ?_) (fun H31407 => ?_)
        · obtain ⟨b91, a93, c93, b95, b97, b99, b101⟩ := x
          dsimp only
          refine JM.many (rs := [4, 8, 10]) (by kernel_rfl) rfl (fun i hi => ?_)
          simp only [List.mem_cons, List.not_mem_nil, or_false] at hi
          rcases hi with rfl | rfl | rfl
          · skip
            refine JMi.eff rfl rfl rfl rfl (m' := 31423) rfl (Eff.buildSlice intE [] rfl rfl rfl rfl rfl rfl rfl) ?_
            rintro _ _ ⟨b91, rfl, -, rfl⟩
            refine ⟨.inr (fun _ h => h.tail.tail.tail), ?_⟩
            have H := H31423 (b91, a93, c93, b95, b97, b99, b101)
            dsimp only at H
            refine JM.weaken ?_ ?_ H
            · exact (.cons rfl rfl (.cons rfl rfl (.cons rfl rfl (.cons rfl rfl (.cons rfl rfl (.cons rfl rfl (.cons rfl rfl (.cons rfl rfl (.cons rfl rfl (.cons rfl rfl (.cons rfl rfl (.cons rfl rfl (.cons rfl rfl (.cons rfl rfl (.cons rfl rfl .nil)))))))))))))))
            · exact fun h s => SubC.out h s
          · skip
            refine JMi.eff rfl rfl rfl rfl (m' := 31663) rfl (Eff.make boE false rfl rfl rfl rfl rfl (by decide) (by omega) (by omega)) ?_
            rintro _ _ ⟨b95, rfl, rfl⟩
            refine ⟨.inr (fun _ h => h.tail.tail.tail), ?_⟩
            have H := H31663 (b91, a93, c93, b95, b97, b99, b101)
            dsimp only at H
            refine JM.weaken ?_ ?_ H
            · exact (.cons rfl rfl (.cons rfl rfl (.cons rfl rfl (.cons rfl rfl (.cons rfl rfl (.cons rfl rfl (.cons rfl rfl (.cons rfl rfl (.cons rfl rfl (.cons rfl rfl (.cons rfl rfl (.cons rfl rfl (.cons rfl rfl (.cons rfl rfl (.cons rfl rfl .nil)))))))))))))))
            · exact fun h s => SubC.out h s
          · skip
            refine JMi.eff rfl rfl rfl rfl (m' := 32431) rfl (Eff.make grE ((none, 0), []) rfl rfl rfl rfl rfl (by decide) (by omega) (by omega)) ?_
            rintro _ _ ⟨b97, rfl, rfl⟩
            refine ⟨.inr (fun _ h => h.tail.tail.tail), ?_⟩
            have H := H32431 (b91, a93, c93, b95, b97, b99, b101)
            dsimp only at H
            refine JM.weaken ?_ ?_ H
            · exact (.cons rfl rfl (.cons rfl rfl (.cons rfl rfl (.cons rfl rfl (.cons rfl rfl (.cons rfl rfl (.cons rfl rfl (.cons rfl rfl (.cons rfl rfl (.cons rfl rfl (.cons rfl rfl (.cons rfl rfl (.cons rfl rfl (.cons rfl rfl (.cons rfl rfl .nil)))))))))))))))
            · exact fun h s => SubC.out h s
        refine JM.cut (ι := Nat × Option Addr × Nat × Nat × Nat × Nat × Nat) (fuel1 := 8) (m1 := 10943) (fun x => [(91, .slice (some ⟨x.1, 0, none⟩) 0 0), (0, .string k), (2, .int .i64 root), (10, .int .i64 (vs.length : Int)), (87, .string k), (88, .string o), (89, .int .i64 root), (90, .int .i64 (vs.length : Int)), (92, .slice va vs.length cap), (94, .int .i64 (vs.length : Int)), (96, .int .i64 (vs.length : Int)), (98, .int .i64 (vs.length : Int)), (100, .int .i64 (vs.length : Int))]) (fun x => sl intE (some ⟨x.1, 0, none⟩) 0 [] :: L) (fun x => ?_) (fun H10943 => ?_)
        · obtain ⟨b91, a93, c93, b95, b97, b99, b101⟩ := x
          dsimp only
          refine JM.many (rs := [6, 8, 10, 12, 14]) (by kernel_rfl) rfl (fun i hi => ?_)
          simp only [List.mem_cons, List.not_mem_nil, or_false] at hi
          rcases hi with rfl | rfl | rfl | rfl | rfl
          · skip
            refine JMi.eff rfl rfl rfl rfl (m' := 11007) rfl (Eff.append rfl rfl rfl rfl (by first | rfl | omega | (simp; done) | (simp; omega)) (by first | rfl | omega | (simp; done) | (simp; omega)) (by decide) (by simp; omega) (by simp; omega) (fun h => absurd h hva)) ?_
            rintro _ _ ⟨a93, c93, rfl, rfl⟩
            refine ⟨.inr (fun _ h => h.tail), ?_⟩
            refine JM.setv (u' := .slice a93 vs.length c93) 93 rfl (by simp) ?_
            rw [List.nil_append]
            have H := H11007 (b91, a93, c93, b95, b97, b99, b101)
            dsimp only at H
            refine JM.weaken ?_ ?_ H
            · exact (.cons rfl rfl (.cons rfl rfl (.cons rfl rfl (.cons rfl rfl (.cons rfl rfl (.cons rfl rfl (.cons rfl rfl (.cons rfl rfl (.cons rfl rfl (.cons rfl rfl (.cons rfl rfl (.cons rfl rfl (.cons rfl rfl (.cons rfl rfl .nil))))))))))))))
            · exact fun h s => SubC.out h s
          · skip
            refine JMi.eff rfl rfl rfl rfl (m' := 11199) rfl (Eff.make boE false rfl rfl rfl rfl rfl (by decide) (by omega) (by omega)) ?_
            rintro _ _ ⟨b95, rfl, rfl⟩
            refine ⟨.inr (fun _ h => h.tail.tail), ?_⟩
            have H := H11199 (b91, a93, c93, b95, b97, b99, b101)
            dsimp only at H
            refine JM.weaken ?_ ?_ H
            · exact (.cons rfl rfl (.cons rfl rfl (.cons rfl rfl (.cons rfl rfl (.cons rfl rfl (.cons rfl rfl (.cons rfl rfl (.cons rfl rfl (.cons rfl rfl (.cons rfl rfl (.cons rfl rfl (.cons rfl rfl (.cons rfl rfl (.cons rfl rfl .nil))))))))))))))
            · exact fun h s => SubC.out h s
          · skip
            refine JMi.eff rfl rfl rfl rfl (m' := 11967) rfl (Eff.make grE ((none, 0), []) rfl rfl rfl rfl rfl (by decide) (by omega) (by omega)) ?_
            rintro _ _ ⟨b97, rfl, rfl⟩
            refine ⟨.inr (fun _ h => h.tail.tail), ?_⟩
            have H := H11967 (b91, a93, c93, b95, b97, b99, b101)
            dsimp only at H
            refine JM.weaken ?_ ?_ H
            · exact (.cons rfl rfl (.cons rfl rfl (.cons rfl rfl (.cons rfl rfl (.cons rfl rfl (.cons rfl rfl (.cons rfl rfl (.cons rfl rfl (.cons rfl rfl (.cons rfl rfl (.cons rfl rfl (.cons rfl rfl (.cons rfl rfl (.cons rfl rfl .nil))))))))))))))
            · exact fun h s => SubC.out h s
          · skip
            refine JMi.eff rfl rfl rfl rfl (m' := 15039) rfl (Eff.make natE 0 rfl rfl rfl rfl rfl (by decide) (by omega) (by omega)) ?_
            rintro _ _ ⟨b99, rfl, rfl⟩
            refine ⟨.inr (fun _ h => h.tail.tail), ?_⟩
            have H := H15039 (b91, a93, c93, b95, b97, b99, b101)
            dsimp only at H
            refine JM.weaken ?_ ?_ H
            · exact (.cons rfl rfl (.cons rfl rfl (.cons rfl rfl (.cons rfl rfl (.cons rfl rfl (.cons rfl rfl (.cons rfl rfl (.cons rfl rfl (.cons rfl rfl (.cons rfl rfl (.cons rfl rfl (.cons rfl rfl (.cons rfl rfl (.cons rfl rfl .nil))))))))))))))
            · exact fun h s => SubC.out h s
          · skip
            refine JMi.eff rfl rfl rfl rfl (m' := 27327) rfl (Eff.make boE false rfl rfl rfl rfl rfl (by decide) (by omega) (by omega)) ?_
            rintro _ _ ⟨b101, rfl, rfl⟩
            refine ⟨.inr (fun _ h => h.tail.tail), ?_⟩
            have H := H27327 (b91, a93, c93, b95, b97, b99, b101)
            dsimp only at H
            refine JM.weaken ?_ ?_ H
            · exact (.cons rfl rfl (.cons rfl rfl (.cons rfl rfl (.cons rfl rfl (.cons rfl rfl (.cons rfl rfl (.cons rfl rfl (.cons rfl rfl (.cons rfl rfl (.cons rfl rfl (.cons rfl rfl (.cons rfl rfl (.cons rfl rfl (.cons rfl rfl .nil))))))))))))))
            · exact fun h s => SubC.out h s
        refine JM.cut (ι := Nat × Option Addr × Nat × Nat × Nat × Nat × Nat) (fuel1 := 8) (m1 := 11183) (fun x => [(95, .slice (some ⟨x.2.2.2.1, 0, none⟩) vs.length vs.length), (0, .string k), (2, .int .i64 root), (10, .int .i64 (vs.length : Int)), (87, .string k), (88, .string o), (89, .int .i64 root), (90, .int .i64 (vs.length : Int)), (92, .slice va vs.length cap), (94, .int .i64 (vs.length : Int)), (96, .int .i64 (vs.length : Int)), (98, .int .i64 (vs.length : Int)), (100, .int .i64 (vs.length : Int))]) (fun x => sl boE (some ⟨x.2.2.2.1, 0, none⟩) vs.length (List.replicate vs.length false) :: L) (fun x => ?_) (fun H11183 => ?_)
        · obtain ⟨b91, a93, c93, b95, b97, b99, b101⟩ := x
          dsimp only
          refine JM.many (rs := [4, 10, 12, 14]) (by kernel_rfl) rfl (fun i hi => ?_)
          simp only [List.mem_cons, List.not_mem_nil, or_false] at hi
          rcases hi with rfl | rfl | rfl | rfl
          · skip
            refine JMi.eff rfl rfl rfl rfl (m' := 11199) rfl (Eff.buildSlice intE [] rfl rfl rfl rfl rfl rfl rfl) ?_
            rintro _ _ ⟨b91, rfl, -, rfl⟩
            refine ⟨.inr (fun _ h => h.tail.tail), ?_⟩
            have H := H11199 (b91, a93, c93, b95, b97, b99, b101)
            dsimp only at H
            refine JM.weaken ?_ ?_ H
            · exact (.cons rfl rfl (.cons rfl rfl (.cons rfl rfl (.cons rfl rfl (.cons rfl rfl (.cons rfl rfl (.cons rfl rfl (.cons rfl rfl (.cons rfl rfl (.cons rfl rfl (.cons rfl rfl (.cons rfl rfl (.cons rfl rfl (.cons rfl rfl .nil))))))))))))))
            · exact fun h s => SubC.out h s
          · skip
            refine JMi.eff rfl rfl rfl rfl (m' := 12207) rfl (Eff.make grE ((none, 0), []) rfl rfl rfl rfl rfl (by decide) (by omega) (by omega)) ?_
            rintro _ _ ⟨b97, rfl, rfl⟩
            refine ⟨.inr (fun _ h => h.tail.tail), ?_⟩
            have H := H12207 (b91, a93, c93, b95, b97, b99, b101)
            dsimp only at H
            refine JM.weaken ?_ ?_ H
            · exact (.cons rfl rfl (.cons rfl rfl (.cons rfl rfl (.cons rfl rfl (.cons rfl rfl (.cons rfl rfl (.cons rfl rfl (.cons rfl rfl (.cons rfl rfl (.cons rfl rfl (.cons rfl rfl (.cons rfl rfl (.cons rfl rfl (.cons rfl rfl .nil))))))))))))))
            · exact fun h s => SubC.out h s
          · skip
            refine JMi.eff rfl rfl rfl rfl (m' := 15279) rfl (Eff.make natE 0 rfl rfl rfl rfl rfl (by decide) (by omega) (by omega)) ?_
            rintro _ _ ⟨b99, rfl, rfl⟩
            refine ⟨.inr (fun _ h => h.tail.tail), ?_⟩
            have H := H15279 (b91, a93, c93, b95, b97, b99, b101)
            dsimp only at H
            refine JM.weaken ?_ ?_ H
            · exact (.cons rfl rfl (.cons rfl rfl (.cons rfl rfl (.cons rfl rfl (.cons rfl rfl (.cons rfl rfl (.cons rfl rfl (.cons rfl rfl (.cons rfl rfl (.cons rfl rfl (.cons rfl rfl (.cons rfl rfl (.cons rfl rfl (.cons rfl rfl .nil))))))))))))))
            · exact fun h s => SubC.out h s
          · skip
            refine JMi.eff rfl rfl rfl rfl (m' := 27567) rfl (Eff.make boE false rfl rfl rfl rfl rfl (by decide) (by omega) (by omega)) ?_
            rintro _ _ ⟨b101, rfl, rfl⟩
            refine ⟨.inr (fun _ h => h.tail.tail), ?_⟩
            have H := H27567 (b91, a93, c93, b95, b97, b99, b101)
            dsimp only at H
            refine JM.weaken ?_ ?_ H
            · exact (.cons rfl rfl (.cons rfl rfl (.cons rfl rfl (.cons rfl rfl (.cons rfl rfl (.cons rfl rfl (.cons rfl rfl (.cons rfl rfl (.cons rfl rfl (.cons rfl rfl (.cons rfl rfl (.cons rfl rfl (.cons rfl rfl (.cons rfl rfl .nil))))))))))))))
            · exact fun h s => SubC.out h s
        refine JM.cut (ι := Nat × Option Addr × Nat × Nat × Nat × Nat × Nat) (fuel1 := 8) (m1 := 11951) (fun x => [(97, .slice (some ⟨x.2.2.2.2.1, 0, none⟩) vs.length vs.length), (0, .string k), (2, .int .i64 root), (10, .int .i64 (vs.length : Int)), (87, .string k), (88, .string o), (89, .int .i64 root), (90, .int .i64 (vs.length : Int)), (92, .slice va vs.length cap), (94, .int .i64 (vs.length : Int)), (96, .int .i64 (vs.length : Int)), (98, .int .i64 (vs.length : Int)), (100, .int .i64 (vs.length : Int))]) (fun x => sl grE (some ⟨x.2.2.2.2.1, 0, none⟩) vs.length (List.replicate vs.length ((none, 0), [])) :: L) (fun x => ?_) (fun H11951 => ?_)
        · obtain ⟨b91, a93, c93, b95, b97, b99, b101⟩ := x
          dsimp only
          refine JM.many (rs := [4, 8, 12, 14]) (by kernel_rfl) rfl (fun i hi => ?_)
          simp only [List.mem_cons, List.not_mem_nil, or_false] at hi
          rcases hi with rfl | rfl | rfl | rfl
          · skip
            refine JMi.eff rfl rfl rfl rfl (m' := 11967) rfl (Eff.buildSlice intE [] rfl rfl rfl rfl rfl rfl rfl) ?_
            rintro _ _ ⟨b91, rfl, -, rfl⟩
            refine ⟨.inr (fun _ h => h.tail.tail), ?_⟩
            have H := H11967 (b91, a93, c93, b95, b97, b99, b101)
            dsimp only at H
            refine JM.weaken ?_ ?_ H
            · exact (.cons rfl rfl (.cons rfl rfl (.cons rfl rfl (.cons rfl rfl (.cons rfl rfl (.cons rfl rfl (.cons rfl rfl (.cons rfl rfl (.cons rfl rfl (.cons rfl rfl (.cons rfl rfl (.cons rfl rfl (.cons rfl rfl (.cons rfl rfl .nil))))))))))))))
            · exact fun h s => SubC.out h s
          · skip
            refine JMi.eff rfl rfl rfl rfl (m' := 12207) rfl (Eff.make boE false rfl rfl rfl rfl rfl (by decide) (by omega) (by omega)) ?_
            rintro _ _ ⟨b95, rfl, rfl⟩
            refine ⟨.inr (fun _ h => h.tail.tail), ?_⟩
            have H := H12207 (b91, a93, c93, b95, b97, b99, b101)
            dsimp only at H
            refine JM.weaken ?_ ?_ H
            · exact (.cons rfl rfl (.cons rfl rfl (.cons rfl rfl (.cons rfl rfl (.cons rfl rfl (.cons rfl rfl (.cons rfl rfl (.cons rfl rfl (.cons rfl rfl (.cons rfl rfl (.cons rfl rfl (.cons rfl rfl (.cons rfl rfl (.cons rfl rfl .nil))))))))))))))
            · exact fun h s => SubC.out h s
          · skip
            refine JMi.eff rfl rfl rfl rfl (m' := 16047) rfl (Eff.make natE 0 rfl rfl rfl rfl rfl (by decide) (by omega) (by omega)) ?_
            rintro _ _ ⟨b99, rfl, rfl⟩
            refine ⟨.inr (fun _ h => h.tail.tail), ?_⟩
            have H := H16047 (b91, a93, c93, b95, b97, b99, b101)
            dsimp only at H
            refine JM.weaken ?_ ?_ H
            · exact (.cons rfl rfl (.cons rfl rfl (.cons rfl rfl (.cons rfl rfl (.cons rfl rfl (.cons rfl rfl (.cons rfl rfl (.cons rfl rfl (.cons rfl rfl (.cons rfl rfl (.cons rfl rfl (.cons rfl rfl (.cons rfl rfl (.cons rfl rfl .nil))))))))))))))
            · exact fun h s => SubC.out h s
          · skip
            refine JMi.eff rfl rfl rfl rfl (m' := 28335) rfl (Eff.make boE false rfl rfl rfl rfl rfl (by decide) (by omega) (by omega)) ?_
            rintro _ _ ⟨b101, rfl, rfl⟩
            refine ⟨.inr (fun _ h => h.tail.tail), ?_⟩
            have H := H28335 (b91, a93, c93, b95, b97, b99, b101)
            dsimp only at H
            refine JM.weaken ?_ ?_ H
            · exact (.cons rfl rfl (.cons rfl rfl (.cons rfl rfl (.cons rfl rfl (.cons rfl rfl (.cons rfl rfl (.cons rfl rfl (.cons rfl rfl (.cons rfl rfl (.cons rfl rfl (.cons rfl rfl (.cons rfl rfl (.cons rfl rfl (.cons rfl rfl .nil))))))))))))))
            · exact fun h s => SubC.out h s
        refine JM.cut (ι := Nat × Option Addr × Nat × Nat × Nat × Nat × Nat) (fuel1 := 8) (m1 := 15023) (fun x => [(99, .slice (some ⟨x.2.2.2.2.2.1, 0, none⟩) vs.length vs.length), (0, .string k), (2, .int .i64 root), (10, .int .i64 (vs.length : Int)), (87, .string k), (88, .string o), (89, .int .i64 root), (90, .int .i64 (vs.length : Int)), (92, .slice va vs.length cap), (94, .int .i64 (vs.length : Int)), (96, .int .i64 (vs.length : Int)), (98, .int .i64 (vs.length : Int)), (100, .int .i64 (vs.length : Int))]) (fun x => sl natE (some ⟨x.2.2.2.2.2.1, 0, none⟩) vs.length (List.replicate vs.length 0) :: L) (fun x => ?_) (fun H15023 => ?_)
        · obtain ⟨b91, a93, c93, b95, b97, b99, b101⟩ := x
          dsimp only
          refine JM.many (rs := [4, 8, 10, 14]) (by kernel_rfl) rfl (fun i hi => ?_)
          simp only [List.mem_cons, List.not_mem_nil, or_false] at hi
          rcases hi with rfl | rfl | rfl | rfl
          · skip
            refine JMi.eff rfl rfl rfl rfl (m' := 15039) rfl (Eff.buildSlice intE [] rfl rfl rfl rfl rfl rfl rfl) ?_
            rintro _ _ ⟨b91, rfl, -, rfl⟩
            refine ⟨.inr (fun _ h => h.tail.tail), ?_⟩
            have H := H15039 (b91, a93, c93, b95, b97, b99, b101)
            dsimp only at H
            refine JM.weaken ?_ ?_ H
            · exact (.cons rfl rfl (.cons rfl rfl (.cons rfl rfl (.cons rfl rfl (.cons rfl rfl (.cons rfl rfl (.cons rfl rfl (.cons rfl rfl (.cons rfl rfl (.cons rfl rfl (.cons rfl rfl (.cons rfl rfl (.cons rfl rfl (.cons rfl rfl .nil))))))))))))))
            · exact fun h s => SubC.out h s
          · skip
            refine JMi.eff rfl rfl rfl rfl (m' := 15279) rfl (Eff.make boE false rfl rfl rfl rfl rfl (by decide) (by omega) (by omega)) ?_
            rintro _ _ ⟨b95, rfl, rfl⟩
            refine ⟨.inr (fun _ h => h.tail.tail), ?_⟩
            have H := H15279 (b91, a93, c93, b95, b97, b99, b101)
            dsimp only at H
            refine JM.weaken ?_ ?_ H
            · exact (.cons rfl rfl (.cons rfl rfl (.cons rfl rfl (.cons rfl rfl (.cons rfl rfl (.cons rfl rfl (.cons rfl rfl (.cons rfl rfl (.cons rfl rfl (.cons rfl rfl (.cons rfl rfl (.cons rfl rfl (.cons rfl rfl (.cons rfl rfl .nil))))))))))))))
            · exact fun h s => SubC.out h s
          · skip
            refine JMi.eff rfl rfl rfl rfl (m' := 16047) rfl (Eff.make grE ((none, 0), []) rfl rfl rfl rfl rfl (by decide) (by omega) (by omega)) ?_
            rintro _ _ ⟨b97, rfl, rfl⟩
            refine ⟨.inr (fun _ h => h.tail.tail), ?_⟩
            have H := H16047 (b91, a93, c93, b95, b97, b99, b101)
            dsimp only at H
            refine JM.weaken ?_ ?_ H
            · exact (.cons rfl rfl (.cons rfl rfl (.cons rfl rfl (.cons rfl rfl (.cons rfl rfl (.cons rfl rfl (.cons rfl rfl (.cons rfl rfl (.cons rfl rfl (.cons rfl rfl (.cons rfl rfl (.cons rfl rfl (.cons rfl rfl (.cons rfl rfl .nil))))))))))))))
            · exact fun h s => SubC.out h s
          · skip
            refine JMi.eff rfl rfl rfl rfl (m' := 31407) rfl (Eff.make boE false rfl rfl rfl rfl rfl (by decide) (by omega) (by omega)) ?_
            rintro _ _ ⟨b101, rfl, rfl⟩
            refine ⟨.inr (fun _ h => h.tail.tail), ?_⟩
            have H := H31407 (b91, a93, c93, b95, b97, b99, b101)
            dsimp only at H
            refine JM.weaken ?_ ?_ H
            · exact (.cons rfl rfl (.cons rfl rfl (.cons rfl rfl (.cons rfl rfl (.cons rfl rfl (.cons rfl rfl (.cons rfl rfl (.cons rfl rfl (.cons rfl rfl (.cons rfl rfl (.cons rfl rfl (.cons rfl rfl (.cons rfl rfl (.cons rfl rfl .nil))))))))))))))
            · exact fun h s => SubC.out h s
        refine JM.cut (ι := Nat × Option Addr × Nat × Nat × Nat × Nat × Nat) (fuel1 := 8) (m1 := 27311) (fun x => [(101, .slice (some ⟨x.2.2.2.2.2.2, 0, none⟩) vs.length vs.length), (0, .string k), (2, .int .i64 root), (10, .int .i64 (vs.length : Int)), (87, .string k), (88, .string o), (89, .int .i64 root), (90, .int .i64 (vs.length : Int)), (92, .slice va vs.length cap), (94, .int .i64 (vs.length : Int)), (96, .int .i64 (vs.length : Int)), (98, .int .i64 (vs.length : Int)), (100, .int .i64 (vs.length : Int))]) (fun x => sl boE (some ⟨x.2.2.2.2.2.2, 0, none⟩) vs.length (List.replicate vs.length false) :: L) (fun x => ?_) (fun H27311 => ?_)
        · obtain ⟨b91, a93, c93, b95, b97, b99, b101⟩ := x
          dsimp only
          refine JM.many (rs := [4, 8, 10, 12]) (by kernel_rfl) rfl (fun i hi => ?_)
          simp only [List.mem_cons, List.not_mem_nil, or_false] at hi
          rcases hi with rfl | rfl | rfl | rfl
          · skip
            refine JMi.eff rfl rfl rfl rfl (m' := 27327) rfl (Eff.buildSlice intE [] rfl rfl rfl rfl rfl rfl rfl) ?_
            rintro _ _ ⟨b91, rfl, -, rfl⟩
            refine ⟨.inr (fun _ h => h.tail.tail), ?_⟩
            have H := H27327 (b91, a93, c93, b95, b97, b99, b101)
            dsimp only at H
            refine JM.weaken ?_ ?_ H
            · exact (.cons rfl rfl (.cons rfl rfl (.cons rfl rfl (.cons rfl rfl (.cons rfl rfl (.cons rfl rfl (.cons rfl rfl (.cons rfl rfl (.cons rfl rfl (.cons rfl rfl (.cons rfl rfl (.cons rfl rfl (.cons rfl rfl (.cons rfl rfl .nil))))))))))))))
            · exact fun h s => SubC.out h s
          · skip
            refine JMi.eff rfl rfl rfl rfl (m' := 27567) rfl (Eff.make boE false rfl rfl rfl rfl rfl (by decide) (by omega) (by omega)) ?_
            rintro _ _ ⟨b95, rfl, rfl⟩
            refine ⟨.inr (fun _ h => h.tail.tail), ?_⟩
            have H := H27567 (b91, a93, c93, b95, b97, b99, b101)
            dsimp only at H
            refine JM.weaken ?_ ?_ H
            · exact (.cons rfl rfl (.cons rfl rfl (.cons rfl rfl (.cons rfl rfl (.cons rfl rfl (.cons rfl rfl (.cons rfl rfl (.cons rfl rfl (.cons rfl rfl (.cons rfl rfl (.cons rfl rfl (.cons rfl rfl (.cons rfl rfl (.cons rfl rfl .nil))))))))))))))
            · exact fun h s => SubC.out h s
          · skip
            refine JMi.eff rfl rfl rfl rfl (m' := 28335) rfl (Eff.make grE ((none, 0), []) rfl rfl rfl rfl rfl (by decide) (by omega) (by omega)) ?_
            rintro _ _ ⟨b97, rfl, rfl⟩
            refine ⟨.inr (fun _ h => h.tail.tail), ?_⟩
            have H := H28335 (b91, a93, c93, b95, b97, b99, b101)
            dsimp only at H
            refine JM.weaken ?_ ?_ H
            · exact (.cons rfl rfl (.cons rfl rfl (.cons rfl rfl (.cons rfl rfl (.cons rfl rfl (.cons rfl rfl (.cons rfl rfl (.cons rfl rfl (.cons rfl rfl (.cons rfl rfl (.cons rfl rfl (.cons rfl rfl (.cons rfl rfl (.cons rfl rfl .nil))))))))))))))
            · exact fun h s => SubC.out h s
          · skip
            refine JMi.eff rfl rfl rfl rfl (m' := 31407) rfl (Eff.make natE 0 rfl rfl rfl rfl rfl (by decide) (by omega) (by omega)) ?_
            rintro _ _ ⟨b99, rfl, rfl⟩
            refine ⟨.inr (fun _ h => h.tail.tail), ?_⟩
            have H := H31407 (b91, a93, c93, b95, b97, b99, b101)
            dsimp only at H
            refine JM.weaken ?_ ?_ H
            · exact (.cons rfl rfl (.cons rfl rfl (.cons rfl rfl (.cons rfl rfl (.cons rfl rfl (.cons rfl rfl (.cons rfl rfl (.cons rfl rfl (.cons rfl rfl (.cons rfl rfl (.cons rfl rfl (.cons rfl rfl (.cons rfl rfl (.cons rfl rfl .nil))))))))))))))
            · exact fun h s => SubC.out h s
        refine JM.many (rs := [4, 8, 10, 12, 14]) (by kernel_rfl) rfl (fun i hi => ?_)
        simp only [List.mem_cons, List.not_mem_nil, or_false] at hi
        rcases hi with rfl | rfl | rfl | rfl | rfl
        · skip
          refine JMi.eff rfl rfl rfl rfl (m' := 10943) rfl (Eff.buildSlice intE [] rfl rfl rfl rfl rfl rfl rfl) ?_
          rintro _ _ ⟨b91, rfl, -, rfl⟩
          refine ⟨.inr (fun _ h => h.tail), ?_⟩
          have H := H10943 (b91, a93, c93, b95, b97, b99, b101)
          dsimp only at H
          refine JM.weaken ?_ ?_ H
          · exact (.cons rfl rfl (.cons rfl rfl (.cons rfl rfl (.cons rfl rfl (.cons rfl rfl (.cons rfl rfl (.cons rfl rfl (.cons rfl rfl (.cons rfl rfl (.cons rfl rfl (.cons rfl rfl (.cons rfl rfl (.cons rfl rfl .nil)))))))))))))
          · exact fun h s => SubC.out h s
        · skip
          refine JMi.eff rfl rfl rfl rfl (m' := 11183) rfl (Eff.make boE false rfl rfl rfl rfl rfl (by decide) (by omega) (by omega)) ?_
          rintro _ _ ⟨b95, rfl, rfl⟩
          refine ⟨.inr (fun _ h => h.tail), ?_⟩
          have H := H11183 (b91, a93, c93, b95, b97, b99, b101)
          dsimp only at H
          refine JM.weaken ?_ ?_ H
          · exact (.cons rfl rfl (.cons rfl rfl (.cons rfl rfl (.cons rfl rfl (.cons rfl rfl (.cons rfl rfl (.cons rfl rfl (.cons rfl rfl (.cons rfl rfl (.cons rfl rfl (.cons rfl rfl (.cons rfl rfl (.cons rfl rfl .nil)))))))))))))
          · exact fun h s => SubC.out h s
        · skip
          refine JMi.eff rfl rfl rfl rfl (m' := 11951) rfl (Eff.make grE ((none, 0), []) rfl rfl rfl rfl rfl (by decide) (by omega) (by omega)) ?_
          rintro _ _ ⟨b97, rfl, rfl⟩
          refine ⟨.inr (fun _ h => h.tail), ?_⟩
          have H := H11951 (b91, a93, c93, b95, b97, b99, b101)
          dsimp only at H
          refine JM.weaken ?_ ?_ H
          · exact (.cons rfl rfl (.cons rfl rfl (.cons rfl rfl (.cons rfl rfl (.cons rfl rfl (.cons rfl rfl (.cons rfl rfl (.cons rfl rfl (.cons rfl rfl (.cons rfl rfl (.cons rfl rfl (.cons rfl rfl (.cons rfl rfl .nil)))))))))))))
          · exact fun h s => SubC.out h s
        · skip
          refine JMi.eff rfl rfl rfl rfl (m' := 15023) rfl (Eff.make natE 0 rfl rfl rfl rfl rfl (by decide) (by omega) (by omega)) ?_
          rintro _ _ ⟨b99, rfl, rfl⟩
          refine ⟨.inr (fun _ h => h.tail), ?_⟩
          have H := H15023 (b91, a93, c93, b95, b97, b99, b101)
          dsimp only at H
          refine JM.weaken ?_ ?_ H
          · exact (.cons rfl rfl (.cons rfl rfl (.cons rfl rfl (.cons rfl rfl (.cons rfl rfl (.cons rfl rfl (.cons rfl rfl (.cons rfl rfl (.cons rfl rfl (.cons rfl rfl (.cons rfl rfl (.cons rfl rfl (.cons rfl rfl .nil)))))))))))))
          · exact fun h s => SubC.out h s
        · skip
          refine JMi.eff rfl rfl rfl rfl (m' := 27311) rfl (Eff.make boE false rfl rfl rfl rfl rfl (by decide) (by omega) (by omega)) ?_
          rintro _ _ ⟨b101, rfl, rfl⟩
          refine ⟨.inr (fun _ h => h.tail), ?_⟩
          have H := H27311 (b91, a93, c93, b95, b97, b99, b101)
          dsimp only at H
          refine JM.weaken ?_ ?_ H
          · exact (.cons rfl rfl (.cons rfl rfl (.cons rfl rfl (.cons rfl rfl (.cons rfl rfl (.cons rfl rfl (.cons rfl rfl (.cons rfl rfl (.cons rfl rfl (.cons rfl rfl (.cons rfl rfl (.cons rfl rfl (.cons rfl rfl .nil)))))))))))))
          · exact fun h s => SubC.out h s
    · intro cuta5
      refine J.region rfl ?_
      refine JO.pur rfl rfl rfl (Pur.assign rfl) ?_
      refine JO.nil ?_
      refine J.block rfl ?_
      refine J.loopF (ι := Nat) (fun q => q ≤ vs.length ∧ ∀ j x, j < q → vs[j]? = some x → ¬ ((o = ⟨#[38]⟩ ∨ o = ⟨#[124]⟩) ∧ isNB x)) (fun q => [(13, .int .i64 (q : Int))]) [(0, _), (1, _), (2, _), (3, _), (10, _)] (fun q => L) (fun q => vs.length - q) 0 rfl (.cons rfl rfl (.cons rfl rfl (.cons rfl rfl (.cons rfl rfl (.cons rfl rfl .nil))))) (.cons rfl rfl .nil) (by first | exact fun _ h => h | exact SubC.out | (dsimp only; exact SubC.out)) ⟨Nat.zero_le _, fun j x hj => absurd hj (Nat.not_lt_zero j)⟩ ?_
      rintro q ⟨hq, hno⟩ ihq
      try dsimp only
      refine J.seq rfl ?_
      refine J.seq rfl ?_
      refine J.region rfl ?_
      refine JO.pur rfl rfl rfl (Pur.move rfl) ?_
      refine JO.pur rfl rfl rfl (Pur.move rfl) ?_
      refine JO.pur rfl rfl rfl (Pur.lss rfl rfl) ?_
      refine JO.pur rfl rfl rfl (Pur.move rfl) ?_
      refine JO.splitB 57 rfl (fun h57 => ?_) (fun h57 => ?_)
      · try simp only [bSimp, bSimp2, ne_eq] at h57
        refine JO.pur rfl rfl rfl (Pur.move rfl) ?_
        refine JO.pur rfl rfl rfl (Pur.neqT rfl rfl) ?_
        refine JO.pur rfl rfl rfl (Pur.pickT rfl rfl) ?_
        refine JO.pur rfl rfl rfl (Pur.move rfl) ?_
        refine JO.splitB 61 rfl (fun h61 => ?_) (fun h61 => ?_)
        · try simp only [bSimp, bSimp2, ne_eq] at h61
          refine JO.pur rfl rfl rfl (Pur.move rfl) ?_
          refine JO.pur rfl rfl rfl (Pur.neqT rfl rfl) ?_
          refine JO.pur rfl rfl rfl (Pur.pickT rfl rfl) ?_
          refine JO.nil ?_
          refine J.splitB 64 rfl (fun h64 => ?_) (fun h64 => ?_)
          · try simp only [bSimp, bSimp2, ne_eq] at h64
            have hql : q < vs.length := by omega
            obtain ⟨x, hX⟩ : ∃ x, vs[q]? = some x := ⟨_, List.getElem?_eq_getElem hql⟩
            have hnd : needN k := by
              have e1 : ¬ k = sCast := h61
              have e2 : ¬ k = sBar := h64
              simp only [kinds, List.mem_cons, List.not_mem_nil, or_false] at hka
              rcases hka with h | h | h | h | h
              · exact absurd h e1
              · exact .inl h
              · exact .inr (.inl h)
              · exact absurd h e2
              · exact .inr (.inr h)
            have hstep : ¬ ((o = ⟨#[38]⟩ ∨ o = ⟨#[124]⟩) ∧ isNB x) → ∀ j y, j < q + 1 → vs[j]? = some y → ¬ ((o = ⟨#[38]⟩ ∨ o = ⟨#[124]⟩) ∧ isNB y) := fun g j y hj hy => by
              rcases Nat.lt_or_ge j q with h | h
              · exact hno j y h hy
              · obtain rfl : j = q := by omega
                rw [hX] at hy; rw [← Option.some.inj hy]; exact g
            refine J.condT rfl rfl ?_
            refine J.skip rfl ?_
            refine J.seq rfl ?_
            refine J.block rfl ?_
            refine J.seq rfl ?_
            refine J.region rfl ?_
            refine JO.pur rfl rfl rfl (Pur.move rfl) ?_
            refine JO.pur rfl rfl rfl (Pur.eqlT rfl rfl) ?_
            refine JO.pur rfl rfl rfl (Pur.move rfl) ?_
            refine JO.splitB 69 rfl (fun h69 => ?_) (fun h69 => ?_)
            · try simp only [bSimp, bSimp2, ne_eq] at h69
              refine JO.no rfl rfl rfl ?_
              refine JO.no rfl rfl rfl ?_
              refine JO.pur rfl rfl rfl (Pur.pickT rfl rfl) ?_
              refine JO.pur rfl rfl rfl (Pur.move rfl) ?_
              refine JO.pur rfl rfl rfl (Pur.move rfl) ?_
              refine JO.pur rfl rfl rfl (Pur.move rfl) ?_
              refine JO.pur rfl rfl rfl (Pur.idx rfl rfl rfl (by first | rfl | (simp; done) | omega | (simp; omega)) rfl hql) ?_
              refine JO.pur rfl rfl rfl (Pur.load rfl (CellIn.el0 rfl hX rfl)) ?_
              refine JO.setv (u' := .int .i64 x) 77 rfl rfl ?_
              refine JO.pur rfl rfl rfl (Pur.neqI rfl rfl) ?_
              refine JO.pur rfl rfl rfl (Pur.pickT rfl rfl) ?_
              refine JO.pur rfl rfl rfl (Pur.move rfl) ?_
              refine JO.splitB 80 rfl (fun h80 => ?_) (fun h80 => ?_)
              · try simp only [bSimp, bSimp2, ne_eq] at h80
                refine JO.pur rfl rfl rfl (Pur.move rfl) ?_
                refine JO.pur rfl rfl rfl (Pur.move rfl) ?_
                refine JO.pur rfl rfl rfl (Pur.idx rfl rfl rfl (by first | rfl | (simp; done) | omega | (simp; omega)) rfl hql) ?_
                refine JO.pur rfl rfl rfl (Pur.load rfl (CellIn.el0 rfl hX rfl)) ?_
                refine JO.setv (u' := .int .i64 x) 84 rfl rfl ?_
                refine JO.pur rfl rfl rfl (Pur.neqI rfl rfl) ?_
                refine JO.pur rfl rfl rfl (Pur.pickT rfl rfl) ?_
                refine JO.nil ?_
                refine J.splitB 86 rfl (fun h86 => ?_) (fun h86 => ?_)
                · try simp only [bSimp, bSimp2, ne_eq] at h86
                  have hbad : ¬ goodN k o root vs := fun g => g.2 ⟨hnd, by first | exact .inl h69 | exact .inr h73 | (rcases h73 with h | h; exact .inl h; exact .inr h), x, List.mem_of_getElem? hX, by omega, by omega⟩
                  refine J.condT rfl rfl ?_
                  refine J.seq rfl ?_
                  refine J.region rfl ?_
                  refine JO.pur rfl rfl rfl (Pur.assign rfl) ?_
                  refine JO.pur rfl rfl rfl (Pur.assign rfl) ?_
                  refine JO.nil ?_
                  refine J.ret rfl rfl ?_
                  first
                  | exact ⟨_, _, .inl ⟨hbad, rfl, rfl⟩, rfl, SubC.out⟩
                  | (refine ⟨_, _, .inr ⟨⟨⟨hka, hoa, ⟨h1, h8⟩, hra⟩, hnb⟩, p, rfl, rfl⟩, rfl, fun h s => ?_⟩
                     have e : newR k o root vs = beginR Y := by rw [hY]; rfl
                     rw [e]; unfold beginR; rw [hkY, wls, hrt]
                     first
                     | (rw [if_pos hkc]; exact SubC.out h s)
                     | (rw [if_neg hkc, if_pos hks]; rw [hqe] at s; exact SubC.out h s)
                     | (rw [if_neg hkc, if_neg hks]; rw [hqe] at s; exact SubC.out h s))
                · try simp only [bSimp, bSimp2, ne_eq] at h86
                  refine J.condF rfl rfl ?_
                  refine J.skip rfl ?_
                  refine J.inBlock ?_
                  refine J.region rfl ?_
                  refine JO.pur rfl rfl rfl (Pur.move rfl) ?_
                  refine JO.pur rfl rfl rfl (Pur.add rfl rfl (wr64 (by omega))) ?_
                  refine JO.pur rfl rfl rfl (Pur.assign rfl) ?_
                  refine JO.nil ?_
                  exact J.weaken (.cons rfl (congrArg (Value.int .i64) (by first | rfl | (dsimp only; omega))) (.cons rfl rfl (.cons rfl rfl (.cons rfl rfl (.cons rfl rfl (.cons rfl rfl .nil)))))) (by first | exact fun _ h => h | exact SubC.out | (dsimp only; exact SubC.out)) (ihq (q + 1) ⟨by omega, hstep (by rintro ⟨g1, g2, g3⟩; rcases g1 with g1 | g1 <;> simp_all)⟩ (by omega))
              · try simp only [bSimp, bSimp2, ne_eq] at h80
                refine JO.no rfl rfl rfl ?_
                refine JO.no rfl rfl rfl ?_
                refine JO.no rfl rfl rfl ?_
                refine JO.no rfl rfl rfl ?_
                refine JO.no rfl rfl rfl ?_
                refine JO.pur rfl rfl rfl (Pur.pickF rfl rfl) ?_
                refine JO.nil ?_
                refine J.condF rfl rfl ?_
                refine J.skip rfl ?_
                refine J.inBlock ?_
                refine J.region rfl ?_
                refine JO.pur rfl rfl rfl (Pur.move rfl) ?_
                refine JO.pur rfl rfl rfl (Pur.add rfl rfl (wr64 (by omega))) ?_
                refine JO.pur rfl rfl rfl (Pur.assign rfl) ?_
                refine JO.nil ?_
                exact J.weaken (.cons rfl (congrArg (Value.int .i64) (by first | rfl | (dsimp only; omega))) (.cons rfl rfl (.cons rfl rfl (.cons rfl rfl (.cons rfl rfl (.cons rfl rfl .nil)))))) (by first | exact fun _ h => h | exact SubC.out | (dsimp only; exact SubC.out)) (ihq (q + 1) ⟨by omega, hstep (by rintro ⟨g1, g2, g3⟩; rcases g1 with g1 | g1 <;> simp_all)⟩ (by omega))
            · try simp only [bSimp, bSimp2, ne_eq] at h69
              refine JO.pur rfl rfl rfl (Pur.move rfl) ?_
              refine JO.pur rfl rfl rfl (Pur.eqlT rfl rfl) ?_
              refine JO.pur rfl rfl rfl (Pur.pickF rfl rfl) ?_
              refine JO.pur rfl rfl rfl (Pur.move rfl) ?_
              refine JO.splitB 73 rfl (fun h73 => ?_) (fun h73 => ?_)
              · try simp only [bSimp, bSimp2, ne_eq] at h73
                refine JO.pur rfl rfl rfl (Pur.move rfl) ?_
                refine JO.pur rfl rfl rfl (Pur.move rfl) ?_
                refine JO.pur rfl rfl rfl (Pur.idx rfl rfl rfl (by first | rfl | (simp; done) | omega | (simp; omega)) rfl hql) ?_
                refine JO.pur rfl rfl rfl (Pur.load rfl (CellIn.el0 rfl hX rfl)) ?_
                refine JO.setv (u' := .int .i64 x) 77 rfl rfl ?_
                refine JO.pur rfl rfl rfl (Pur.neqI rfl rfl) ?_
                refine JO.pur rfl rfl rfl (Pur.pickT rfl rfl) ?_
                refine JO.pur rfl rfl rfl (Pur.move rfl) ?_
                refine JO.splitB 80 rfl (fun h80 => ?_) (fun h80 => ?_)
                · try simp only [bSimp, bSimp2, ne_eq] at h80
                  refine JO.pur rfl rfl rfl (Pur.move rfl) ?_
                  refine JO.pur rfl rfl rfl (Pur.move rfl) ?_
                  refine JO.pur rfl rfl rfl (Pur.idx rfl rfl rfl (by first | rfl | (simp; done) | omega | (simp; omega)) rfl hql) ?_
                  refine JO.pur rfl rfl rfl (Pur.load rfl (CellIn.el0 rfl hX rfl)) ?_
                  refine JO.setv (u' := .int .i64 x) 84 rfl rfl ?_
                  refine JO.pur rfl rfl rfl (Pur.neqI rfl rfl) ?_
                  refine JO.pur rfl rfl rfl (Pur.pickT rfl rfl) ?_
                  refine JO.nil ?_
                  refine J.splitB 86 rfl (fun h86 => ?_) (fun h86 => ?_)
                  · try simp only [bSimp, bSimp2, ne_eq] at h86
                    have hbad : ¬ goodN k o root vs := fun g => g.2 ⟨hnd, by first | exact .inl h69 | exact .inr h73 | (rcases h73 with h | h; exact .inl h; exact .inr h), x, List.mem_of_getElem? hX, by omega, by omega⟩
                    refine J.condT rfl rfl ?_
                    refine J.seq rfl ?_
                    refine J.region rfl ?_
                    refine JO.pur rfl rfl rfl (Pur.assign rfl) ?_
                    refine JO.pur rfl rfl rfl (Pur.assign rfl) ?_
                    refine JO.nil ?_
                    refine J.ret rfl rfl ?_
                    first
                    | exact ⟨_, _, .inl ⟨hbad, rfl, rfl⟩, rfl, SubC.out⟩
                    | (refine ⟨_, _, .inr ⟨⟨⟨hka, hoa, ⟨h1, h8⟩, hra⟩, hnb⟩, p, rfl, rfl⟩, rfl, fun h s => ?_⟩
                       have e : newR k o root vs = beginR Y := by rw [hY]; rfl
                       rw [e]; unfold beginR; rw [hkY, wls, hrt]
                       first
                       | (rw [if_pos hkc]; exact SubC.out h s)
                       | (rw [if_neg hkc, if_pos hks]; rw [hqe] at s; exact SubC.out h s)
                       | (rw [if_neg hkc, if_neg hks]; rw [hqe] at s; exact SubC.out h s))
                  · try simp only [bSimp, bSimp2, ne_eq] at h86
                    refine J.condF rfl rfl ?_
                    refine J.skip rfl ?_
                    refine J.inBlock ?_
                    refine J.region rfl ?_
                    refine JO.pur rfl rfl rfl (Pur.move rfl) ?_
                    refine JO.pur rfl rfl rfl (Pur.add rfl rfl (wr64 (by omega))) ?_
                    refine JO.pur rfl rfl rfl (Pur.assign rfl) ?_
                    refine JO.nil ?_
                    exact J.weaken (.cons rfl (congrArg (Value.int .i64) (by first | rfl | (dsimp only; omega))) (.cons rfl rfl (.cons rfl rfl (.cons rfl rfl (.cons rfl rfl (.cons rfl rfl .nil)))))) (by first | exact fun _ h => h | exact SubC.out | (dsimp only; exact SubC.out)) (ihq (q + 1) ⟨by omega, hstep (by rintro ⟨g1, g2, g3⟩; rcases g1 with g1 | g1 <;> simp_all)⟩ (by omega))
                · try simp only [bSimp, bSimp2, ne_eq] at h80
                  refine JO.no rfl rfl rfl ?_
                  refine JO.no rfl rfl rfl ?_
                  refine JO.no rfl rfl rfl ?_
                  refine JO.no rfl rfl rfl ?_
                  refine JO.no rfl rfl rfl ?_
                  refine JO.pur rfl rfl rfl (Pur.pickF rfl rfl) ?_
                  refine JO.nil ?_
                  refine J.condF rfl rfl ?_
                  refine J.skip rfl ?_
                  refine J.inBlock ?_
                  refine J.region rfl ?_
                  refine JO.pur rfl rfl rfl (Pur.move rfl) ?_
                  refine JO.pur rfl rfl rfl (Pur.add rfl rfl (wr64 (by omega))) ?_
                  refine JO.pur rfl rfl rfl (Pur.assign rfl) ?_
                  refine JO.nil ?_
                  exact J.weaken (.cons rfl (congrArg (Value.int .i64) (by first | rfl | (dsimp only; omega))) (.cons rfl rfl (.cons rfl rfl (.cons rfl rfl (.cons rfl rfl (.cons rfl rfl .nil)))))) (by first | exact fun _ h => h | exact SubC.out | (dsimp only; exact SubC.out)) (ihq (q + 1) ⟨by omega, hstep (by rintro ⟨g1, g2, g3⟩; rcases g1 with g1 | g1 <;> simp_all)⟩ (by omega))
              · try simp only [bSimp, bSimp2, ne_eq] at h73
                refine JO.no rfl rfl rfl ?_
                refine JO.no rfl rfl rfl ?_
                refine JO.no rfl rfl rfl ?_
                refine JO.no rfl rfl rfl ?_
                refine JO.no rfl rfl rfl ?_
                refine JO.pur rfl rfl rfl (Pur.pickF rfl rfl) ?_
                refine JO.pur rfl rfl rfl (Pur.move rfl) ?_
                refine JO.no rfl rfl rfl ?_
                refine JO.no rfl rfl rfl ?_
                refine JO.no rfl rfl rfl ?_
                refine JO.no rfl rfl rfl ?_
                refine JO.no rfl rfl rfl ?_
                refine JO.pur rfl rfl rfl (Pur.pickF rfl rfl) ?_
                refine JO.nil ?_
                refine J.condF rfl rfl ?_
                refine J.skip rfl ?_
                refine J.inBlock ?_
                refine J.region rfl ?_
                refine JO.pur rfl rfl rfl (Pur.move rfl) ?_
                refine JO.pur rfl rfl rfl (Pur.add rfl rfl (wr64 (by omega))) ?_
                refine JO.pur rfl rfl rfl (Pur.assign rfl) ?_
                refine JO.nil ?_
                exact J.weaken (.cons rfl (congrArg (Value.int .i64) (by first | rfl | (dsimp only; omega))) (.cons rfl rfl (.cons rfl rfl (.cons rfl rfl (.cons rfl rfl (.cons rfl rfl .nil)))))) (by first | exact fun _ h => h | exact SubC.out | (dsimp only; exact SubC.out)) (ihq (q + 1) ⟨by omega, hstep (by rintro ⟨g1, g2, g3⟩; rcases g1 with g1 | g1 <;> simp_all)⟩ (by omega))
          · try simp only [bSimp, bSimp2, ne_eq] at h64
            have hnb : ¬ boolN k o vs := fun g => by have e : k = sBar := Classical.byContradiction fun g1 => (by first | exact h64 g1 | exact g1 h64); have := g.1; unfold needN at this; rw [e] at this; revert this; decide
            refine J.condF rfl rfl ?_
            refine J.exit rfl rfl ?_
            exact J.weaken (.cons rfl rfl (.cons rfl rfl (.cons rfl rfl (.cons rfl rfl (.cons rfl rfl .nil))))) (by first | exact fun _ h => h | exact SubC.out | (dsimp only; exact SubC.out)) (cuta5 () hnb)
        · try simp only [bSimp, bSimp2, ne_eq] at h61
          have hnb : ¬ boolN k o vs := fun g => by have e : k = sCast := Classical.byContradiction fun g1 => (by first | exact h61 g1 | exact g1 h61); have := g.1; unfold needN at this; rw [e] at this; revert this; decide
          refine JO.no rfl rfl rfl ?_
          refine JO.no rfl rfl rfl ?_
          refine JO.pur rfl rfl rfl (Pur.pickF rfl rfl) ?_
          refine JO.nil ?_
          refine J.condF rfl rfl ?_
          refine J.exit rfl rfl ?_
          exact J.weaken (.cons rfl rfl (.cons rfl rfl (.cons rfl rfl (.cons rfl rfl (.cons rfl rfl .nil))))) (by first | exact fun _ h => h | exact SubC.out | (dsimp only; exact SubC.out)) (cuta5 () hnb)
      · try simp only [bSimp, bSimp2, ne_eq] at h57
        have hnb : ¬ boolN k o vs := fun ⟨g1, g2, v, hv, hb⟩ => by obtain ⟨j, hj, e⟩ := List.getElem_of_mem hv; exact hno j v (by omega) (by rw [List.getElem?_eq_getElem hj, e]) ⟨g2, hb⟩
        refine JO.no rfl rfl rfl ?_
        refine JO.no rfl rfl rfl ?_
        refine JO.pur rfl rfl rfl (Pur.pickF rfl rfl) ?_
        refine JO.pur rfl rfl rfl (Pur.move rfl) ?_
        refine JO.no rfl rfl rfl ?_
        refine JO.no rfl rfl rfl ?_
        refine JO.pur rfl rfl rfl (Pur.pickF rfl rfl) ?_
        refine JO.nil ?_
        refine J.condF rfl rfl ?_
        refine J.exit rfl rfl ?_
        exact J.weaken (.cons rfl rfl (.cons rfl rfl (.cons rfl rfl (.cons rfl rfl (.cons rfl rfl .nil))))) (by first | exact fun _ h => h | exact SubC.out | (dsimp only; exact SubC.out)) (cuta5 () hnb)
  · intro cuta3
    refine J.region rfl ?_
    refine JO.pur rfl rfl rfl (Pur.move rfl) ?_
    refine JO.pur rfl rfl rfl (Pur.neqI rfl rfl) ?_
    refine JO.pur rfl rfl rfl (Pur.move rfl) ?_
    refine JO.splitB 28 rfl (fun h28 => ?_) (fun h28 => ?_)
    · try simp only [bSimp, bSimp2, ne_eq] at h28
      have hbad : ¬ goodN k o root vs := fun g => by have g1 := g.1.2.1; rw [if_pos g1] at h28; exact h28 rfl
      refine JO.no rfl rfl rfl ?_
      refine JO.no rfl rfl rfl ?_
      refine JO.no rfl rfl rfl ?_
      refine JO.pur rfl rfl rfl (Pur.pickT rfl rfl) ?_
      refine JO.pur rfl rfl rfl (Pur.move rfl) ?_
      refine JO.no rfl rfl rfl ?_
      refine JO.no rfl rfl rfl ?_
      refine JO.pur rfl rfl rfl (Pur.pickT rfl rfl) ?_
      refine JO.pur rfl rfl rfl (Pur.move rfl) ?_
      refine JO.no rfl rfl rfl ?_
      refine JO.no rfl rfl rfl ?_
      refine JO.pur rfl rfl rfl (Pur.pickT rfl rfl) ?_
      refine JO.pur rfl rfl rfl (Pur.move rfl) ?_
      refine JO.no rfl rfl rfl ?_
      refine JO.no rfl rfl rfl ?_
      refine JO.no rfl rfl rfl ?_
      refine JO.no rfl rfl rfl ?_
      refine JO.no rfl rfl rfl ?_
      refine JO.no rfl rfl rfl ?_
      refine JO.no rfl rfl rfl ?_
      refine JO.no rfl rfl rfl ?_
      refine JO.no rfl rfl rfl ?_
      refine JO.no rfl rfl rfl ?_
      refine JO.no rfl rfl rfl ?_
      refine JO.pur rfl rfl rfl (Pur.pickT rfl rfl) ?_
      refine JO.nil ?_
      refine J.condT rfl rfl ?_
      refine J.seq rfl ?_
      refine J.region rfl ?_
      refine JO.pur rfl rfl rfl (Pur.assign rfl) ?_
      refine JO.pur rfl rfl rfl (Pur.assign rfl) ?_
      refine JO.nil ?_
      refine J.ret rfl rfl ?_
      first
      | exact ⟨_, _, .inl ⟨hbad, rfl, rfl⟩, rfl, SubC.out⟩
      | (refine ⟨_, _, .inr ⟨⟨⟨hka, hoa, ⟨h1, h8⟩, hra⟩, hnb⟩, p, rfl, rfl⟩, rfl, fun h s => ?_⟩
         have e : newR k o root vs = beginR Y := by rw [hY]; rfl
         rw [e]; unfold beginR; rw [hkY, wls, hrt]
         first
         | (rw [if_pos hkc]; exact SubC.out h s)
         | (rw [if_neg hkc, if_pos hks]; rw [hqe] at s; exact SubC.out h s)
         | (rw [if_neg hkc, if_neg hks]; rw [hqe] at s; exact SubC.out h s))
    · try simp only [bSimp, bSimp2, ne_eq] at h28
      refine JO.pur rfl rfl rfl (Pur.move rfl) ?_
      refine JO.effR rfl rfl rfl (Eff.call rfl (rKind_ok (t := k))) ?_
      refine JO.pur rfl rfl rfl (Pur.not rfl) ?_
      refine JO.pur rfl rfl rfl (Pur.pickF rfl rfl) ?_
      refine JO.pur rfl rfl rfl (Pur.move rfl) ?_
      refine JO.splitB 33 rfl (fun h33 => ?_) (fun h33 => ?_)
      · try simp only [bSimp, bSimp2, ne_eq] at h33
        have hbad : ¬ goodN k o root vs := fun g => by have := g.1.1; simp_all
        refine JO.no rfl rfl rfl ?_
        refine JO.no rfl rfl rfl ?_
        refine JO.pur rfl rfl rfl (Pur.pickT rfl rfl) ?_
        refine JO.pur rfl rfl rfl (Pur.move rfl) ?_
        refine JO.no rfl rfl rfl ?_
        refine JO.no rfl rfl rfl ?_
        refine JO.pur rfl rfl rfl (Pur.pickT rfl rfl) ?_
        refine JO.pur rfl rfl rfl (Pur.move rfl) ?_
        refine JO.no rfl rfl rfl ?_
        refine JO.no rfl rfl rfl ?_
        refine JO.no rfl rfl rfl ?_
        refine JO.no rfl rfl rfl ?_
        refine JO.no rfl rfl rfl ?_
        refine JO.no rfl rfl rfl ?_
        refine JO.no rfl rfl rfl ?_
        refine JO.no rfl rfl rfl ?_
        refine JO.no rfl rfl rfl ?_
        refine JO.no rfl rfl rfl ?_
        refine JO.no rfl rfl rfl ?_
        refine JO.pur rfl rfl rfl (Pur.pickT rfl rfl) ?_
        refine JO.nil ?_
        refine J.condT rfl rfl ?_
        refine J.seq rfl ?_
        refine J.region rfl ?_
        refine JO.pur rfl rfl rfl (Pur.assign rfl) ?_
        refine JO.pur rfl rfl rfl (Pur.assign rfl) ?_
        refine JO.nil ?_
        refine J.ret rfl rfl ?_
        first
        | exact ⟨_, _, .inl ⟨hbad, rfl, rfl⟩, rfl, SubC.out⟩
        | (refine ⟨_, _, .inr ⟨⟨⟨hka, hoa, ⟨h1, h8⟩, hra⟩, hnb⟩, p, rfl, rfl⟩, rfl, fun h s => ?_⟩
           have e : newR k o root vs = beginR Y := by rw [hY]; rfl
           rw [e]; unfold beginR; rw [hkY, wls, hrt]
           first
           | (rw [if_pos hkc]; exact SubC.out h s)
           | (rw [if_neg hkc, if_pos hks]; rw [hqe] at s; exact SubC.out h s)
           | (rw [if_neg hkc, if_neg hks]; rw [hqe] at s; exact SubC.out h s))
      · try simp only [bSimp, bSimp2, ne_eq] at h33
        refine JO.pur rfl rfl rfl (Pur.move rfl) ?_
        refine JO.pur rfl rfl rfl (Pur.lss rfl rfl) ?_
        refine JO.pur rfl rfl rfl (Pur.pickF rfl rfl) ?_
        refine JO.pur rfl rfl rfl (Pur.move rfl) ?_
        refine JO.splitB 37 rfl (fun h37 => ?_) (fun h37 => ?_)
        · try simp only [bSimp, bSimp2, ne_eq] at h37
          have hbad : ¬ goodN k o root vs := fun g => by have g1 := g.1.2.2.1; omega
          refine JO.no rfl rfl rfl ?_
          refine JO.no rfl rfl rfl ?_
          refine JO.pur rfl rfl rfl (Pur.pickT rfl rfl) ?_
          refine JO.pur rfl rfl rfl (Pur.move rfl) ?_
          refine JO.no rfl rfl rfl ?_
          refine JO.no rfl rfl rfl ?_
          refine JO.no rfl rfl rfl ?_
          refine JO.no rfl rfl rfl ?_
          refine JO.no rfl rfl rfl ?_
          refine JO.no rfl rfl rfl ?_
          refine JO.no rfl rfl rfl ?_
          refine JO.no rfl rfl rfl ?_
          refine JO.no rfl rfl rfl ?_
          refine JO.no rfl rfl rfl ?_
          refine JO.no rfl rfl rfl ?_
          refine JO.pur rfl rfl rfl (Pur.pickT rfl rfl) ?_
          refine JO.nil ?_
          refine J.condT rfl rfl ?_
          refine J.seq rfl ?_
          refine J.region rfl ?_
          refine JO.pur rfl rfl rfl (Pur.assign rfl) ?_
          refine JO.pur rfl rfl rfl (Pur.assign rfl) ?_
          refine JO.nil ?_
          refine J.ret rfl rfl ?_
          first
          | exact ⟨_, _, .inl ⟨hbad, rfl, rfl⟩, rfl, SubC.out⟩
          | (refine ⟨_, _, .inr ⟨⟨⟨hka, hoa, ⟨h1, h8⟩, hra⟩, hnb⟩, p, rfl, rfl⟩, rfl, fun h s => ?_⟩
             have e : newR k o root vs = beginR Y := by rw [hY]; rfl
             rw [e]; unfold beginR; rw [hkY, wls, hrt]
             first
             | (rw [if_pos hkc]; exact SubC.out h s)
             | (rw [if_neg hkc, if_pos hks]; rw [hqe] at s; exact SubC.out h s)
             | (rw [if_neg hkc, if_neg hks]; rw [hqe] at s; exact SubC.out h s))
        · try simp only [bSimp, bSimp2, ne_eq] at h37
          refine JO.pur rfl rfl rfl (Pur.move rfl) ?_
          refine JO.pur rfl rfl rfl (Pur.gtr rfl rfl) ?_
          refine JO.pur rfl rfl rfl (Pur.pickF rfl rfl) ?_
          refine JO.pur rfl rfl rfl (Pur.move rfl) ?_
          refine JO.splitB 41 rfl (fun h41 => ?_) (fun h41 => ?_)
          · try simp only [bSimp, bSimp2, ne_eq] at h41
            have hbad : ¬ goodN k o root vs := fun g => by have g1 := g.1.2.2.1; omega
            refine JO.no rfl rfl rfl ?_
            refine JO.no rfl rfl rfl ?_
            refine JO.no rfl rfl rfl ?_
            refine JO.no rfl rfl rfl ?_
            refine JO.no rfl rfl rfl ?_
            refine JO.no rfl rfl rfl ?_
            refine JO.no rfl rfl rfl ?_
            refine JO.no rfl rfl rfl ?_
            refine JO.no rfl rfl rfl ?_
            refine JO.no rfl rfl rfl ?_
            refine JO.no rfl rfl rfl ?_
            refine JO.pur rfl rfl rfl (Pur.pickT rfl rfl) ?_
            refine JO.nil ?_
            refine J.condT rfl rfl ?_
            refine J.seq rfl ?_
            refine J.region rfl ?_
            refine JO.pur rfl rfl rfl (Pur.assign rfl) ?_
            refine JO.pur rfl rfl rfl (Pur.assign rfl) ?_
            refine JO.nil ?_
            refine J.ret rfl rfl ?_
            first
            | exact ⟨_, _, .inl ⟨hbad, rfl, rfl⟩, rfl, SubC.out⟩
            | (refine ⟨_, _, .inr ⟨⟨⟨hka, hoa, ⟨h1, h8⟩, hra⟩, hnb⟩, p, rfl, rfl⟩, rfl, fun h s => ?_⟩
               have e : newR k o root vs = beginR Y := by rw [hY]; rfl
               rw [e]; unfold beginR; rw [hkY, wls, hrt]
               first
               | (rw [if_pos hkc]; exact SubC.out h s)
               | (rw [if_neg hkc, if_pos hks]; rw [hqe] at s; exact SubC.out h s)
               | (rw [if_neg hkc, if_neg hks]; rw [hqe] at s; exact SubC.out h s))
          · try simp only [bSimp, bSimp2, ne_eq] at h41
            refine JO.pur rfl rfl rfl (Pur.move rfl) ?_
            refine JO.pur rfl rfl rfl (Pur.neqT rfl rfl) ?_
            refine JO.pur rfl rfl rfl (Pur.move rfl) ?_
            refine JO.splitB 44 rfl (fun h44 => ?_) (fun h44 => ?_)
            · try simp only [bSimp, bSimp2, ne_eq] at h44
              refine JO.pur rfl rfl rfl (Pur.move rfl) ?_
              refine JO.pur rfl rfl rfl (Pur.lss rfl rfl) ?_
              refine JO.pur rfl rfl rfl (Pur.move rfl) ?_
              refine JO.splitB 47 rfl (fun h47 => ?_) (fun h47 => ?_)
              · try simp only [bSimp, bSimp2, ne_eq] at h47
                have hbad : ¬ goodN k o root vs := fun g => by have g1 := g.1.2.2.2 h44; omega
                refine JO.no rfl rfl rfl ?_
                refine JO.no rfl rfl rfl ?_
                refine JO.no rfl rfl rfl ?_
                refine JO.pur rfl rfl rfl (Pur.pickT rfl rfl) ?_
                refine JO.pur rfl rfl rfl (Pur.pickT rfl rfl) ?_
                refine JO.pur rfl rfl rfl (Pur.pickF rfl rfl) ?_
                refine JO.nil ?_
                refine J.condT rfl rfl ?_
                refine J.seq rfl ?_
                refine J.region rfl ?_
                refine JO.pur rfl rfl rfl (Pur.assign rfl) ?_
                refine JO.pur rfl rfl rfl (Pur.assign rfl) ?_
                refine JO.nil ?_
                refine J.ret rfl rfl ?_
                first
                | exact ⟨_, _, .inl ⟨hbad, rfl, rfl⟩, rfl, SubC.out⟩
                | (refine ⟨_, _, .inr ⟨⟨⟨hka, hoa, ⟨h1, h8⟩, hra⟩, hnb⟩, p, rfl, rfl⟩, rfl, fun h s => ?_⟩
                   have e : newR k o root vs = beginR Y := by rw [hY]; rfl
                   rw [e]; unfold beginR; rw [hkY, wls, hrt]
                   first
                   | (rw [if_pos hkc]; exact SubC.out h s)
                   | (rw [if_neg hkc, if_pos hks]; rw [hqe] at s; exact SubC.out h s)
                   | (rw [if_neg hkc, if_neg hks]; rw [hqe] at s; exact SubC.out h s))
              · try simp only [bSimp, bSimp2, ne_eq] at h47
                refine JO.pur rfl rfl rfl (Pur.move rfl) ?_
                refine JO.pur rfl rfl rfl (Pur.move rfl) ?_
                refine JO.pur rfl rfl rfl (Pur.geq rfl rfl) ?_
                refine JO.pur rfl rfl rfl (Pur.pickF rfl rfl) ?_
                refine JO.pur rfl rfl rfl (Pur.pickT rfl rfl) ?_
                refine JO.pur rfl rfl rfl (Pur.pickF rfl rfl) ?_
                refine JO.nil ?_
                refine J.splitB 53 rfl (fun h53 => ?_) (fun h53 => ?_)
                · try simp only [bSimp, bSimp2, ne_eq] at h53
                  have hbad : ¬ goodN k o root vs := fun g => by have g1 := g.1.2.2.2 h44; omega
                  refine J.condT rfl rfl ?_
                  refine J.seq rfl ?_
                  refine J.region rfl ?_
                  refine JO.pur rfl rfl rfl (Pur.assign rfl) ?_
                  refine JO.pur rfl rfl rfl (Pur.assign rfl) ?_
                  refine JO.nil ?_
                  refine J.ret rfl rfl ?_
                  first
                  | exact ⟨_, _, .inl ⟨hbad, rfl, rfl⟩, rfl, SubC.out⟩
                  | (refine ⟨_, _, .inr ⟨⟨⟨hka, hoa, ⟨h1, h8⟩, hra⟩, hnb⟩, p, rfl, rfl⟩, rfl, fun h s => ?_⟩
                     have e : newR k o root vs = beginR Y := by rw [hY]; rfl
                     rw [e]; unfold beginR; rw [hkY, wls, hrt]
                     first
                     | (rw [if_pos hkc]; exact SubC.out h s)
                     | (rw [if_neg hkc, if_pos hks]; rw [hqe] at s; exact SubC.out h s)
                     | (rw [if_neg hkc, if_neg hks]; rw [hqe] at s; exact SubC.out h s))
                · try simp only [bSimp, bSimp2, ne_eq] at h53
                  refine J.condF rfl rfl ?_
                  refine J.skip rfl ?_
                  have hka : k ∈ kinds := by simp_all
                  have hoa : o ∈ opsL := by
                    by_cases g1 : o ∈ opsL
                    · exact g1
                    · exfalso; simp_all
                  have hna : 1 ≤ vs.length ∧ vs.length ≤ 8 := by omega
                  have hra : ¬ k = sScan → 0 ≤ root ∧ root < (vs.length : Int) := fun g1 => by first | exact absurd (show k = ⟨#[115, 99, 97, 110]⟩ by simpa using h44) g1 | (constructor <;> omega)
                  exact J.weaken (.cons rfl rfl (.cons rfl rfl (.cons rfl rfl (.cons rfl rfl (.cons rfl rfl .nil))))) (by first | exact fun _ h => h | exact SubC.out | (dsimp only; exact SubC.out)) (cuta3 () ⟨hka, hoa, hna, hra⟩)
            · try simp only [bSimp, bSimp2, ne_eq] at h44
              refine JO.no rfl rfl rfl ?_
              refine JO.no rfl rfl rfl ?_
              refine JO.no rfl rfl rfl ?_
              refine JO.no rfl rfl rfl ?_
              refine JO.no rfl rfl rfl ?_
              refine JO.no rfl rfl rfl ?_
              refine JO.no rfl rfl rfl ?_
              refine JO.pur rfl rfl rfl (Pur.pickF rfl rfl) ?_
              refine JO.pur rfl rfl rfl (Pur.pickF rfl rfl) ?_
              refine JO.nil ?_
              refine J.condF rfl rfl ?_
              refine J.skip rfl ?_
              have hka : k ∈ kinds := by simp_all
              have hoa : o ∈ opsL := by
                by_cases g1 : o ∈ opsL
                · exact g1
                · exfalso; simp_all
              have hna : 1 ≤ vs.length ∧ vs.length ≤ 8 := by omega
              have hra : ¬ k = sScan → 0 ≤ root ∧ root < (vs.length : Int) := fun g1 => by first | exact absurd (show k = ⟨#[115, 99, 97, 110]⟩ by simpa using h44) g1 | (constructor <;> omega)
              exact J.weaken (.cons rfl rfl (.cons rfl rfl (.cons rfl rfl (.cons rfl rfl (.cons rfl rfl .nil))))) (by first | exact fun _ h => h | exact SubC.out | (dsimp only; exact SubC.out)) (cuta3 () ⟨hka, hoa, hna, hra⟩)

end Go.Proofs.Ytoikjjpleonllaa
