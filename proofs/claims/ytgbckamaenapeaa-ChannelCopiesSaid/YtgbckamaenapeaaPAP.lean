/-
  A part of the proof of the claim that this folder bears.
-/
import Derived.Test.YtgbckamaenapeaaPAL
import Derived.Test.YtgbckamaenapeaaPAO
import Derived.Test.YtgbckamaenapeaaKD
/- The text HCopyS. -/
set_option linter.unusedVariables false
set_option linter.unusedSimpArgs false
set_option maxRecDepth 10000
namespace Go.Proofs.Ytgbckamaenapeaa
open Go Go.KK Hf

theorem pend_le {c : Ch} (g : GoodC c) : c.pend.length ≤ 400 := by
  have h1 := g.w1; have h2 := g.r1; have h3 := g.t4; have h4 := g.at4; have h5 := g.f0
  cases hw : c.wr with
  | true => have := h1 hw; omega
  | false => rw [h2 hw]; simp
def pk (F : Fl) (S : List Nat) : List Ch := S.reverse.map (ch F)
theorem pk_cons (F : Fl) (S : List Nat) (j : Nat) : pk F (j :: S) = pk F S ++ [ch F j] := by simp [pk]
theorem pk_len (F : Fl) (S : List Nat) : (pk F S).length = S.length := by simp [pk]
theorem pk_perm {F : Fl} {S : List Nat} (hn : S.Nodup) (h1 : ∀ j, j < F.opens.length → j ∈ S) (h2 : ∀ j ∈ S, j < F.opens.length) : (pk F S).Perm F.opens := by
  have hp : S.Perm (List.range F.opens.length) := (List.perm_ext_iff_of_nodup hn List.nodup_range).2 fun j => ⟨fun h => List.mem_range.2 (h2 j h), fun h => h1 j (List.mem_range.1 h)⟩
  have e : F.opens = (List.range F.opens.length).map (ch F) := by
    apply List.ext_getElem (by simp)
    intro i hi1 hi2
    simp [ch, List.getD_eq_getElem?_getD, hi1]
  exact (((List.reverse_perm S).trans hp).map (ch F)).trans (e ▸ List.Perm.refl _)
theorem pk_ne {F : Fl} {k : Nat} (g : Hf.Good F k) {i j : Nat} (hi : i < F.opens.length) (hj : j < F.opens.length) (h : i ≠ j) : (ch F i).num ≠ (ch F j).num := by
  have hu := List.pairwise_iff_getElem.1 g.ord
  have e1 : ch F i = F.opens[i] := by simp [ch, List.getD_eq_getElem?_getD, hi]
  have e2 : ch F j = F.opens[j] := by simp [ch, List.getD_eq_getElem?_getD, hj]
  rw [e1, e2]
  rcases Nat.lt_or_gt_of_ne h with h | h
  · exact hu i j hi hj h
  · exact (hu j i hj hi h).symm
theorem aset_pk {F : Fl} {k : Nat} (g : Hf.Good F k) {R : List Cr} {S : List Nat} {j : Nat} (hR : R.length = S.length) (hnd : (j :: S).Nodup) (hlt : ∀ x ∈ j :: S, x < F.opens.length) (v : Value) : aset (entsC R (pk F S)) (ch F j).num v = entsC R (pk F S) ++ [((ch F j).num, v)] := by
  have hl : alook (entsC R (pk F S)) (ch F j).num = none := by
    refine look_no (F := ⟨F.bytes, F.next, pk F S⟩) (by rw [pk_len]; exact hR) ?_
    unfold ix
    rw [List.findIdx?_eq_none_iff]
    intro c hc
    obtain ⟨i, hi, rfl⟩ := List.mem_map.1 hc
    have hi2 : i ∈ S := List.mem_reverse.1 hi
    have hne : j ≠ i := fun e => (List.nodup_cons.1 hnd).1 (e ▸ hi2)
    exact decide_eq_false (pk_ne g (hlt j (by simp)) (hlt i (by simp [hi2])) hne)
  unfold aset; rw [hl]; rfl
theorem CopyS_ok {L : List Asn} {p : Nat} {F : Fl} {k : Nat} (g : Hf.Good F k) (hk : k ≤ 100000) :
    CallS Try.prog 25 [.pointer (some ⟨p, 0, none⟩)].toArray (FA p F :: L) (fun v M => ∃ p2, v = .pointer (some ⟨p2, 0, none⟩) ∧ M = FS p2 F :: FA p F :: L) := by
  have hb4 := g.b4
  refine CallS.ent ?_
  refine CallS.enter Try.func25 rfl rfl rfl rfl rfl ?_
  refine J.seq rfl ?_
  refine FA_open fun ab cb mb rs hr => ?_
  refine J.region rfl ?_
  refine JO.pur rfl rfl rfl (Pur.assign rfl) ?_
  refine JO.nil ?_
  refine J.seq rfl ?_
  refine J.seq rfl ?_
  refine J.region rfl ?_
  refine JO.pur rfl rfl rfl (Pur.move rfl) ?_
  refine JO.effR rfl rfl rfl (Eff.call rfl (none_ok)) ?_
  refine JO.setv (u' := .bool false) 8 rfl (congrArg Value.bool (rfl)) ?_
  refine JO.nil ?_
  refine J.condF rfl rfl ?_
  refine J.skip rfl ?_
  refine J.seq rfl ?_
  refine J.fact (fun h s => SlH.nil (a := ab) (cap := cb) (E := byE) (xs := F.bytes) s) fun hnl => ?_
  have hnl2 : ab = none → F.bytes.length = 0 ∧ cb = 0 := fun e => by obtain ⟨e1, e2⟩ := hnl e; exact ⟨by rw [e1]; rfl, e2⟩
  refine J.mask0 (n := 13) [] rfl Try.mixed rfl (by kernel_rfl) ?_
  refine JM.take 0 (fun _ h => h) rfl (by kernel_rfl) rfl rfl rfl (m' := 1) rfl (Pur.move rfl) ?_
  refine JM.take 1 (fun _ h => h) rfl (by kernel_rfl) rfl rfl rfl (m' := 3) rfl (Pur.nilCheck rfl) ?_
  refine JM.take 2 (fun _ h => h) rfl (by kernel_rfl) rfl rfl rfl (m' := 7) rfl (Pur.fieldAddr rfl) ?_
  refine JM.take 3 (fun _ h => h) rfl (by kernel_rfl) rfl rfl rfl (m' := 15) rfl (Pur.load rfl (CellIn.blk rfl)) ?_
  refine JM.take 5 (fun _ h => h) rfl (by kernel_rfl) rfl rfl rfl (m' := 47) rfl (Pur.move rfl) ?_
  refine JM.take 6 (fun _ h => h) rfl (by kernel_rfl) rfl rfl rfl (m' := 111) rfl (Pur.nilCheck rfl) ?_
  refine JM.take 7 (fun _ h => h) rfl (by kernel_rfl) rfl rfl rfl (m' := 239) rfl (Pur.fieldAddr rfl) ?_
  refine JM.take 8 (fun _ h => h) rfl (by kernel_rfl) rfl rfl rfl (m' := 495) rfl (Pur.load rfl (CellIn.blk rfl)) ?_
  refine JM.setv (u' := .int .i64 F.next) 17 rfl rfl ?_
  refine JM.many (rs := [4, 9]) (by kernel_rfl) rfl (fun i hi => ?_)
  simp only [List.mem_cons, List.not_mem_nil, or_false] at hi
  rcases hi with rfl | rfl
  · skip
    refine JMi.eff rfl rfl rfl rfl (m' := 511) rfl (Eff.call rfl (cloneB (xs := F.bytes) rfl (by omega) hnl2)) ?_
    rintro _ _ ⟨a13, c13, ⟨rfl, -⟩, rfl⟩
    refine ⟨.inr (fun _ h => h.tail), ?_⟩
    refine JM.one (i := 9) (by kernel_rfl) ?_
    refine JMi.eff rfl rfl rfl rfl (m' := 1023) rfl (Eff.makeMap intK) ?_
    rintro _ _ ⟨b18, rfl, rfl⟩
    refine ⟨.inr (fun _ h => h.tail.tail), ?_⟩
    refine JM.take 10 (fun _ h => h.tail.tail) rfl (by kernel_rfl) rfl rfl rfl (m' := 2047) rfl (Pur.build (cs := [_, _, _, _]) rfl rfl) ?_
    refine JM.one (i := 11) (by kernel_rfl) ?_
    refine JMi.eff rfl rfl rfl rfl (m' := 4095) rfl (Eff.box (cs := [_, _, _, _]) rfl rfl) ?_
    rintro _ _ ⟨b20, rfl, rfl⟩
    refine ⟨.inr (fun _ h => h.tail.tail.tail), ?_⟩
    refine JM.take 12 (fun _ h => h.tail.tail.tail) rfl (by kernel_rfl) rfl rfl rfl (m' := 8191) rfl (Pur.assign rfl) ?_
    refine JM.done rfl ?_
    refine J.seq rfl ?_
    refine J.seq rfl ?_
    refine J.region rfl ?_
    refine JO.pur rfl rfl rfl (Pur.move rfl) ?_
    refine JO.pur rfl rfl rfl (Pur.nilCheck rfl) ?_
    refine JO.pur rfl rfl rfl (Pur.fieldAddr rfl) ?_
    refine JO.pur rfl rfl rfl (Pur.load rfl (CellIn.blk rfl)) ?_
    refine JO.eff rfl rfl rfl (Eff.range rfl) ?_
    rintro _ _ ⟨i25, rfl, rfl⟩
    refine JO.nil ?_
    refine J.block rfl ?_
    refine J.loopF (ι := List Nat × List Cr) (fun q => q.1.Nodup ∧ (∀ j ∈ q.1, j < F.opens.length) ∧ q.2.length = q.1.length) (fun q => []) [(3, _), (25, _)] (fun q => mpIt intK mb i25 (entsC rs F.opens) q.1 :: mp intK b18 (entsC q.2 (pk F q.1)) :: star (chL q.2 (pk F q.1)) :: blk b20 (.cells #[.bool true, .slice a13 F.bytes.length c13, .int .i64 F.next, .map (some b18)] 62) :: sl byE a13 c13 F.bytes :: blk p (.cells #[.bool true, .slice ab F.bytes.length cb, .int .i64 F.next, .map (some mb)] 62) :: sl byE ab cb F.bytes :: star (chL rs F.opens) :: L) (fun q => F.opens.length - q.1.length) ([], []) rfl (.cons rfl rfl (.cons rfl rfl .nil)) .nil (fun h s => by have s3 : Sat h (star (chL [] []) :: _) := star_nil s; show Sat h (mpIt intK mb i25 (entsC rs F.opens) [] :: mp intK b18 [] :: star (chL [] []) :: blk b20 (.cells #[.bool true, .slice a13 F.bytes.length c13, .int .i64 F.next, .map (some b18)] 62) :: sl byE a13 c13 F.bytes :: blk p (.cells #[.bool true, .slice ab F.bytes.length cb, .int .i64 F.next, .map (some mb)] 62) :: sl byE ab cb F.bytes :: star (chL rs F.opens) :: L); exact SubC.out (L := star (chL [] []) :: _) h s3) ⟨List.nodup_nil, by simp, rfl⟩ ?_
    rintro ⟨S, R⟩ ⟨hS1, hS2, hR⟩ ih0
    try dsimp only
    refine J.seq rfl ?_
    refine J.region rfl ?_
    refine JO.eff rfl rfl rfl (Eff.next rfl) ?_
    rintro _ _ (⟨j, kk, vv, hmj, hjS, rfl, rfl⟩ | ⟨hall, rfl, rfl⟩)
    · skip
      obtain ⟨r, c, hrg, hch, rfl, rfl, hjl⟩ := ents_inv hr hmj
      have hcj : ch F j = c := by simp [ch, List.getD_eq_getElem?_getD, hch]
      subst hcj
      have hnd : (j :: S).Nodup := List.nodup_cons.2 ⟨hjS, hS1⟩
      have hlt2 : ∀ x ∈ j :: S, x < F.opens.length := fun x hx => by rcases List.mem_cons.1 hx with rfl | hx; exact hjl; exact hS2 x hx
      have hRp : R.length = (pk F S).length := by rw [pk_len]; exact hR
      refine JO.pur rfl rfl rfl (Pur.extract rfl rfl) ?_
      refine JO.nil ?_
      refine J.seq rfl ?_
      refine J.condT rfl rfl ?_
      refine J.skip rfl ?_
      refine J.block rfl ?_
      refine J.seq rfl ?_
      refine J.region rfl ?_
      refine JO.pur rfl rfl rfl (Pur.entry rfl hmj) ?_
      refine JO.pur rfl rfl rfl (Pur.extract rfl rfl) ?_
      refine JO.setv (u' := .int .i64 (ch F j).num) 29 rfl rfl ?_
      refine JO.pur rfl rfl rfl (Pur.extract rfl rfl) ?_
      refine JO.setv (u' := .pointer (some ⟨r.b, 0, none⟩)) 30 rfl rfl ?_
      refine JO.pur rfl rfl rfl (Pur.assign rfl) ?_
      refine JO.pur rfl rfl rfl (Pur.assign rfl) ?_
      refine JO.nil ?_
      refine J.seq rfl ?_
      refine J.imp (fun h s => ch_take (rs := rs) (cs := F.opens) (i := j) hrg hch s) ?_
      refine J.region rfl ?_
      refine JO.pur rfl rfl rfl (Pur.move rfl) ?_
      refine JO.pur rfl rfl rfl (Pur.nilCheck rfl) ?_
      refine JO.pur rfl rfl rfl (Pur.loadA rfl rfl rfl CellsIn.blk) ?_
      refine JO.eff rfl rfl rfl (Eff.alloc (cs := [_, _, _, _, _, _, _]) rfl) ?_
      rintro _ _ ⟨b6, rfl, rfl⟩
      refine JO.effN rfl rfl (Eff.storeBA (cs' := [_, _, _, _, _, _, _]) rfl rfl (by rfl) (by rfl) (by rfl)) ?_
      rintro _ _ ⟨rfl, rfl⟩
      refine JO.nil ?_
      refine J.seq rfl ?_
      have gcj := g.gc _ (List.mem_of_getElem? hch)
      have hmj4 := g.mks _ (List.mem_of_getElem? hch)
      have hpl := pend_le gcj
      refine J.fact (fun h s => SlH.nil (a := r.ap) (cap := r.cp) (E := byE) (xs := (ch F j).pend) s) fun hnp => ?_
      refine J.fact (fun h s => SlH.nil (a := r.am) (cap := r.cm) (E := intE) (xs := (ch F j).marks) s) fun hnm => ?_
      have hnp2 : r.ap = none → (ch F j).pend.length = 0 ∧ r.cp = 0 := fun e => by obtain ⟨e1, e2⟩ := hnp e; exact ⟨by rw [e1]; rfl, e2⟩
      have hnm2 : r.am = none → (ch F j).marks.length = 0 ∧ r.cm = 0 := fun e => by obtain ⟨e1, e2⟩ := hnm e; exact ⟨by rw [e1]; rfl, e2⟩
      refine J.mask1 (n := 14) [13] rfl Try.mixed rfl (by kernel_rfl) ?_
      refine JM.take 0 (fun _ h => h.tail) rfl (by kernel_rfl) rfl rfl rfl (m' := 1) rfl (Pur.move rfl) ?_
      refine JM.take 1 (fun _ h => h.tail) rfl (by kernel_rfl) rfl rfl rfl (m' := 3) rfl (Pur.nilCheck rfl) ?_
      refine JM.take 2 (fun _ h => h.tail) rfl (by kernel_rfl) rfl rfl rfl (m' := 7) rfl (Pur.fieldAddr rfl) ?_
      refine JM.take 3 (fun _ h => h.tail) rfl (by kernel_rfl) rfl rfl rfl (m' := 15) rfl (Pur.load rfl (CellIn.blk rfl)) ?_
      refine JM.take 5 (fun _ h => h.tail) rfl (by kernel_rfl) rfl rfl rfl (m' := 47) rfl (Pur.move rfl) ?_
      refine JM.take 6 (fun _ h => h.tail) rfl (by kernel_rfl) rfl rfl rfl (m' := 111) rfl (Pur.nilCheck rfl) ?_
      refine JM.take 7 (fun _ h => h.tail) rfl (by kernel_rfl) rfl rfl rfl (m' := 239) rfl (Pur.fieldAddr rfl) ?_
      refine JM.take 8 (fun _ h => h.tail) rfl (by kernel_rfl) rfl rfl rfl (m' := 495) rfl (Pur.load rfl (CellIn.blk rfl)) ?_
      refine JM.one (i := 4) (by kernel_rfl) ?_
      refine JMi.eff rfl rfl rfl rfl (m' := 511) rfl (Eff.call rfl (cloneB (xs := (ch F j).pend) rfl (by omega) hnp2)) ?_
      rintro _ _ ⟨a38, c38, ⟨rfl, -⟩, rfl⟩
      refine ⟨.inr (fun _ h => h.tail.tail), ?_⟩
      refine JM.one (i := 9) (by kernel_rfl) ?_
      refine JMi.eff rfl rfl rfl rfl (m' := 1023) rfl (Eff.call rfl (cloneI (xs := (ch F j).marks) rfl (by omega) hnm2)) ?_
      rintro _ _ ⟨a43, c43, ⟨rfl, -⟩, rfl⟩
      refine ⟨.inr (fun _ h => h.tail.tail.tail), ?_⟩
      refine JM.take 10 (fun _ h => h.tail.tail.tail) rfl (by kernel_rfl) rfl rfl rfl (m' := 2047) rfl (Pur.fieldAddr rfl) ?_
      refine JM.one (i := 11) (by kernel_rfl) ?_
      refine JMi.effN rfl rfl rfl (m' := 4095) rfl (Eff.storeB rfl rfl rfl (.tail (.tail (.tail (.tail .head))))) ?_
      rintro _ _ ⟨rfl, rfl⟩
      refine ⟨.inr (fun _ h => h.tail.tail.tail), ?_⟩
      refine JM.take 12 (fun _ h => h.tail.tail.tail) rfl (by kernel_rfl) rfl rfl rfl (m' := 8191) rfl (Pur.fieldAddr rfl) ?_
      refine JM.one (i := 13) (by kernel_rfl) ?_
      refine JMi.effN rfl rfl rfl (m' := 16383) rfl (Eff.storeB rfl rfl rfl (.tail (.tail (.tail (.tail (.tail (.tail .head))))))) ?_
      rintro _ _ ⟨rfl, rfl⟩
      refine ⟨.inl (by simp), ?_⟩
      refine JM.done rfl ?_
      refine J.region rfl ?_
      refine JO.pur rfl rfl rfl (Pur.move rfl) ?_
      refine JO.pur rfl rfl rfl (Pur.nilCheck rfl) ?_
      refine JO.pur rfl rfl rfl (Pur.fieldAddr rfl) ?_
      refine JO.pur rfl rfl rfl (Pur.load rfl (CellIn.blk rfl)) ?_
      refine JO.pur rfl rfl rfl (Pur.move rfl) ?_
      refine JO.effN rfl rfl (Eff.mapUpdate (K := intK) (k := (ch F j).num) rfl rfl rfl) ?_
      rintro _ _ ⟨rfl, rfl⟩
      rw [aset_pk g hR hnd hlt2]
      refine JO.nil ?_
      refine J.inBlock ?_
      have hback : ∀ h, Sat h (blk r.b (.cells #[.int .i64 (ch F j).fr, .int .i64 (ch F j).to, .int .i64 (ch F j).at', .bool (ch F j).wr, .slice r.ap (ch F j).pend.length r.cp, .int .i64 (ch F j).st, .slice r.am (ch F j).marks.length r.cm] 77) :: sl byE r.ap r.cp (ch F j).pend :: sl intE r.am r.cm (ch F j).marks :: star ((chL rs F.opens).eraseIdx j) :: blk b6 (.cells #[.int .i64 (ch F j).fr, .int .i64 (ch F j).to, .int .i64 (ch F j).at', .bool (ch F j).wr, .slice a38 (ch F j).pend.length c38, .int .i64 (ch F j).st, .slice a43 (ch F j).marks.length c43] 77) :: sl byE a38 c38 (ch F j).pend :: sl intE a43 c43 (ch F j).marks :: star (chL R (pk F S)) :: mpIt intK mb i25 (entsC rs F.opens) (j :: S) :: mp intK b18 (entsC R (pk F S) ++ [((ch F j).num, .pointer (some ⟨b6, 0, none⟩))]) :: blk b20 (.cells #[.bool true, .slice a13 F.bytes.length c13, .int .i64 F.next, .map (some b18)] 62) :: sl byE a13 c13 F.bytes :: blk p (.cells #[.bool true, .slice ab F.bytes.length cb, .int .i64 F.next, .map (some mb)] 62) :: sl byE ab cb F.bytes :: L) → Sat h (mpIt intK mb i25 (entsC rs F.opens) (j :: S) :: mp intK b18 (entsC (R ++ [(Cr.mk b6 a38 c38 a43 c43)]) (pk F (j :: S))) :: star (chL (R ++ [(Cr.mk b6 a38 c38 a43 c43)]) (pk F (j :: S))) :: blk b20 (.cells #[.bool true, .slice a13 F.bytes.length c13, .int .i64 F.next, .map (some b18)] 62) :: sl byE a13 c13 F.bytes :: blk p (.cells #[.bool true, .slice ab F.bytes.length cb, .int .i64 F.next, .map (some mb)] 62) :: sl byE ab cb F.bytes :: star (chL rs F.opens) :: L) := fun h s => by
        have s2 := ch_put (c' := ch F j) hrg hch s
        rw [set_same hch, set_same hrg] at s2
        have s3 : Sat h (blk b6 (.cells #[.int .i64 (ch F j).fr, .int .i64 (ch F j).to, .int .i64 (ch F j).at', .bool (ch F j).wr, .slice a38 (ch F j).pend.length c38, .int .i64 (ch F j).st, .slice a43 (ch F j).marks.length c43] 77) :: sl byE a38 c38 (ch F j).pend :: sl intE a43 c43 (ch F j).marks :: star (chL R (pk F S)) :: star (chL rs F.opens) :: mpIt intK mb i25 (entsC rs F.opens) (j :: S) :: mp intK b18 (entsC R (pk F S) ++ [((ch F j).num, .pointer (some ⟨b6, 0, none⟩))]) :: blk b20 (.cells #[.bool true, .slice a13 F.bytes.length c13, .int .i64 F.next, .map (some b18)] 62) :: sl byE a13 c13 F.bytes :: blk p (.cells #[.bool true, .slice ab F.bytes.length cb, .int .i64 F.next, .map (some mb)] 62) :: sl byE ab cb F.bytes :: L) := SubC.out h s2
        have s4 := star_snoc (B := chA (Cr.mk b6 a38 c38 a43 c43) (ch F j)) ((Sat.star (M := [blk b6 (.cells #[.int .i64 (ch F j).fr, .int .i64 (ch F j).to, .int .i64 (ch F j).at', .bool (ch F j).wr, .slice a38 (ch F j).pend.length c38, .int .i64 (ch F j).st, .slice a43 (ch F j).marks.length c43] 77), sl byE a38 c38 (ch F j).pend, sl intE a43 c43 (ch F j).marks])).2 s3)
        rw [← chL_snoc (hRp), ← pk_cons] at s4
        have e5 : entsC R (pk F S) ++ [((ch F j).num, .pointer (some ⟨b6, 0, none⟩))] = entsC (R ++ [(Cr.mk b6 a38 c38 a43 c43)]) (pk F (j :: S)) := by rw [pk_cons, entsC_snoc hRp]; rfl
        rw [e5] at s4
        exact SubC.out h s4
      exact J.weaken (.cons rfl rfl (.cons rfl rfl .nil)) (fun h s => hback h (SubC.out h s)) (ih0 (j :: S, R ++ [(Cr.mk b6 a38 c38 a43 c43)]) ⟨hnd, hlt2, by simp [hR]⟩ (by have h7 := nodup_le _ _ hnd hlt2; simp only [List.length_cons] at h7 ⊢; omega))
    · skip
      have hall2 : ∀ j, j < F.opens.length → j ∈ S := fun j hj => hall j (by rw [entsC_len hr]; exact hj)
      refine JO.pur rfl rfl rfl (Pur.extract rfl rfl) ?_
      refine JO.nil ?_
      refine J.seq rfl ?_
      refine J.condF rfl rfl ?_
      refine J.exit rfl rfl ?_
      refine J.seq rfl ?_
      refine J.pullC (A := mpIt intK mb i25 (entsC rs F.opens) S) inferInstance ?_
      refine J.imp (fun h s => s.cons_imp (B := mp intK mb (entsC rs F.opens)) (fun _ h => mpIt_done h) (fun _ h => h)) ?_
      refine J.region rfl ?_
      refine JO.pur rfl rfl rfl (Pur.move rfl) ?_
      refine JO.pur rfl rfl rfl (Pur.assign rfl) ?_
      refine JO.nil ?_
      refine J.ret rfl rfl ?_
      have hp := pk_perm hS1 hall2 hS2
      refine ⟨_, _, ⟨b20, rfl, rfl⟩, rfl, fun h s => ?_⟩
      have s2 := FA_mk (L := blk b20 (.cells #[.bool true, .slice a13 F.bytes.length c13, .int .i64 F.next, .map (some b18)] 62) :: sl byE a13 c13 F.bytes :: mp intK b18 (entsC R (pk F S)) :: star (chL R (pk F S)) :: L) (F := F) (p := p) (ab := ab) (cb := cb) (mb := mb) hr (SubC.out h s)
      refine FS_mk (F := F) (F' := ⟨F.bytes, F.next, pk F S⟩) ⟨rfl, rfl, hp, g.ord⟩ ?_
      exact FA_mk (F := ⟨F.bytes, F.next, pk F S⟩) (ab := a13) (cb := c13) (mb := b18) (rs := R) (by rw [pk_len]; exact hR) (SubC.out h s2)
  · skip
    refine JMi.eff rfl rfl rfl rfl (m' := 1007) rfl (Eff.makeMap intK) ?_
    rintro _ _ ⟨b18, rfl, rfl⟩
    refine ⟨.inr (fun _ h => h.tail), ?_⟩
    refine JM.one (i := 4) (by kernel_rfl) ?_
    refine JMi.eff rfl rfl rfl rfl (m' := 1023) rfl (Eff.call rfl (cloneB (xs := F.bytes) rfl (by omega) hnl2)) ?_
    rintro _ _ ⟨a13, c13, ⟨rfl, -⟩, rfl⟩
    refine ⟨.inr (fun _ h => h.tail.tail), ?_⟩
    refine JM.take 10 (fun _ h => h.tail.tail) rfl (by kernel_rfl) rfl rfl rfl (m' := 2047) rfl (Pur.build (cs := [_, _, _, _]) rfl rfl) ?_
    refine JM.one (i := 11) (by kernel_rfl) ?_
    refine JMi.eff rfl rfl rfl rfl (m' := 4095) rfl (Eff.box (cs := [_, _, _, _]) rfl rfl) ?_
    rintro _ _ ⟨b20, rfl, rfl⟩
    refine ⟨.inr (fun _ h => h.tail.tail.tail), ?_⟩
    refine JM.take 12 (fun _ h => h.tail.tail.tail) rfl (by kernel_rfl) rfl rfl rfl (m' := 8191) rfl (Pur.assign rfl) ?_
    refine JM.done rfl ?_
    refine J.seq rfl ?_
    refine J.seq rfl ?_
    refine J.region rfl ?_
    refine JO.pur rfl rfl rfl (Pur.move rfl) ?_
    refine JO.pur rfl rfl rfl (Pur.nilCheck rfl) ?_
    refine JO.pur rfl rfl rfl (Pur.fieldAddr rfl) ?_
    refine JO.pur rfl rfl rfl (Pur.load rfl (CellIn.blk rfl)) ?_
    refine JO.eff rfl rfl rfl (Eff.range rfl) ?_
    rintro _ _ ⟨i25, rfl, rfl⟩
    refine JO.nil ?_
    refine J.block rfl ?_
    refine J.loopF (ι := List Nat × List Cr) (fun q => q.1.Nodup ∧ (∀ j ∈ q.1, j < F.opens.length) ∧ q.2.length = q.1.length) (fun q => []) [(3, _), (25, _)] (fun q => mpIt intK mb i25 (entsC rs F.opens) q.1 :: mp intK b18 (entsC q.2 (pk F q.1)) :: star (chL q.2 (pk F q.1)) :: blk b20 (.cells #[.bool true, .slice a13 F.bytes.length c13, .int .i64 F.next, .map (some b18)] 62) :: sl byE a13 c13 F.bytes :: blk p (.cells #[.bool true, .slice ab F.bytes.length cb, .int .i64 F.next, .map (some mb)] 62) :: sl byE ab cb F.bytes :: star (chL rs F.opens) :: L) (fun q => F.opens.length - q.1.length) ([], []) rfl (.cons rfl rfl (.cons rfl rfl .nil)) .nil (fun h s => by have s3 : Sat h (star (chL [] []) :: _) := star_nil s; show Sat h (mpIt intK mb i25 (entsC rs F.opens) [] :: mp intK b18 [] :: star (chL [] []) :: blk b20 (.cells #[.bool true, .slice a13 F.bytes.length c13, .int .i64 F.next, .map (some b18)] 62) :: sl byE a13 c13 F.bytes :: blk p (.cells #[.bool true, .slice ab F.bytes.length cb, .int .i64 F.next, .map (some mb)] 62) :: sl byE ab cb F.bytes :: star (chL rs F.opens) :: L); exact SubC.out (L := star (chL [] []) :: _) h s3) ⟨List.nodup_nil, by simp, rfl⟩ ?_
    rintro ⟨S, R⟩ ⟨hS1, hS2, hR⟩ ih1
    try dsimp only
    refine J.seq rfl ?_
    refine J.region rfl ?_
    refine JO.eff rfl rfl rfl (Eff.next rfl) ?_
    rintro _ _ (⟨j, kk, vv, hmj, hjS, rfl, rfl⟩ | ⟨hall, rfl, rfl⟩)
    · skip
      obtain ⟨r, c, hrg, hch, rfl, rfl, hjl⟩ := ents_inv hr hmj
      have hcj : ch F j = c := by simp [ch, List.getD_eq_getElem?_getD, hch]
      subst hcj
      have hnd : (j :: S).Nodup := List.nodup_cons.2 ⟨hjS, hS1⟩
      have hlt2 : ∀ x ∈ j :: S, x < F.opens.length := fun x hx => by rcases List.mem_cons.1 hx with rfl | hx; exact hjl; exact hS2 x hx
      have hRp : R.length = (pk F S).length := by rw [pk_len]; exact hR
      refine JO.pur rfl rfl rfl (Pur.extract rfl rfl) ?_
      refine JO.nil ?_
      refine J.seq rfl ?_
      refine J.condT rfl rfl ?_
      refine J.skip rfl ?_
      refine J.block rfl ?_
      refine J.seq rfl ?_
      refine J.region rfl ?_
      refine JO.pur rfl rfl rfl (Pur.entry rfl hmj) ?_
      refine JO.pur rfl rfl rfl (Pur.extract rfl rfl) ?_
      refine JO.setv (u' := .int .i64 (ch F j).num) 29 rfl rfl ?_
      refine JO.pur rfl rfl rfl (Pur.extract rfl rfl) ?_
      refine JO.setv (u' := .pointer (some ⟨r.b, 0, none⟩)) 30 rfl rfl ?_
      refine JO.pur rfl rfl rfl (Pur.assign rfl) ?_
      refine JO.pur rfl rfl rfl (Pur.assign rfl) ?_
      refine JO.nil ?_
      refine J.seq rfl ?_
      refine J.imp (fun h s => ch_take (rs := rs) (cs := F.opens) (i := j) hrg hch s) ?_
      refine J.region rfl ?_
      refine JO.pur rfl rfl rfl (Pur.move rfl) ?_
      refine JO.pur rfl rfl rfl (Pur.nilCheck rfl) ?_
      refine JO.pur rfl rfl rfl (Pur.loadA rfl rfl rfl CellsIn.blk) ?_
      refine JO.eff rfl rfl rfl (Eff.alloc (cs := [_, _, _, _, _, _, _]) rfl) ?_
      rintro _ _ ⟨b6, rfl, rfl⟩
      refine JO.effN rfl rfl (Eff.storeBA (cs' := [_, _, _, _, _, _, _]) rfl rfl (by rfl) (by rfl) (by rfl)) ?_
      rintro _ _ ⟨rfl, rfl⟩
      refine JO.nil ?_
      refine J.seq rfl ?_
      have gcj := g.gc _ (List.mem_of_getElem? hch)
      have hmj4 := g.mks _ (List.mem_of_getElem? hch)
      have hpl := pend_le gcj
      refine J.fact (fun h s => SlH.nil (a := r.ap) (cap := r.cp) (E := byE) (xs := (ch F j).pend) s) fun hnp => ?_
      refine J.fact (fun h s => SlH.nil (a := r.am) (cap := r.cm) (E := intE) (xs := (ch F j).marks) s) fun hnm => ?_
      have hnp2 : r.ap = none → (ch F j).pend.length = 0 ∧ r.cp = 0 := fun e => by obtain ⟨e1, e2⟩ := hnp e; exact ⟨by rw [e1]; rfl, e2⟩
      have hnm2 : r.am = none → (ch F j).marks.length = 0 ∧ r.cm = 0 := fun e => by obtain ⟨e1, e2⟩ := hnm e; exact ⟨by rw [e1]; rfl, e2⟩
      refine J.mask1 (n := 14) [13] rfl Try.mixed rfl (by kernel_rfl) ?_
      refine JM.take 0 (fun _ h => h.tail) rfl (by kernel_rfl) rfl rfl rfl (m' := 1) rfl (Pur.move rfl) ?_
      refine JM.take 1 (fun _ h => h.tail) rfl (by kernel_rfl) rfl rfl rfl (m' := 3) rfl (Pur.nilCheck rfl) ?_
      refine JM.take 2 (fun _ h => h.tail) rfl (by kernel_rfl) rfl rfl rfl (m' := 7) rfl (Pur.fieldAddr rfl) ?_
      refine JM.take 3 (fun _ h => h.tail) rfl (by kernel_rfl) rfl rfl rfl (m' := 15) rfl (Pur.load rfl (CellIn.blk rfl)) ?_
      refine JM.take 5 (fun _ h => h.tail) rfl (by kernel_rfl) rfl rfl rfl (m' := 47) rfl (Pur.move rfl) ?_
      refine JM.take 6 (fun _ h => h.tail) rfl (by kernel_rfl) rfl rfl rfl (m' := 111) rfl (Pur.nilCheck rfl) ?_
      refine JM.take 7 (fun _ h => h.tail) rfl (by kernel_rfl) rfl rfl rfl (m' := 239) rfl (Pur.fieldAddr rfl) ?_
      refine JM.take 8 (fun _ h => h.tail) rfl (by kernel_rfl) rfl rfl rfl (m' := 495) rfl (Pur.load rfl (CellIn.blk rfl)) ?_
      refine JM.one (i := 4) (by kernel_rfl) ?_
      refine JMi.eff rfl rfl rfl rfl (m' := 511) rfl (Eff.call rfl (cloneB (xs := (ch F j).pend) rfl (by omega) hnp2)) ?_
      rintro _ _ ⟨a38, c38, ⟨rfl, -⟩, rfl⟩
      refine ⟨.inr (fun _ h => h.tail.tail), ?_⟩
      refine JM.one (i := 9) (by kernel_rfl) ?_
      refine JMi.eff rfl rfl rfl rfl (m' := 1023) rfl (Eff.call rfl (cloneI (xs := (ch F j).marks) rfl (by omega) hnm2)) ?_
      rintro _ _ ⟨a43, c43, ⟨rfl, -⟩, rfl⟩
      refine ⟨.inr (fun _ h => h.tail.tail.tail), ?_⟩
      refine JM.take 10 (fun _ h => h.tail.tail.tail) rfl (by kernel_rfl) rfl rfl rfl (m' := 2047) rfl (Pur.fieldAddr rfl) ?_
      refine JM.one (i := 11) (by kernel_rfl) ?_
      refine JMi.effN rfl rfl rfl (m' := 4095) rfl (Eff.storeB rfl rfl rfl (.tail (.tail (.tail (.tail .head))))) ?_
      rintro _ _ ⟨rfl, rfl⟩
      refine ⟨.inr (fun _ h => h.tail.tail.tail), ?_⟩
      refine JM.take 12 (fun _ h => h.tail.tail.tail) rfl (by kernel_rfl) rfl rfl rfl (m' := 8191) rfl (Pur.fieldAddr rfl) ?_
      refine JM.one (i := 13) (by kernel_rfl) ?_
      refine JMi.effN rfl rfl rfl (m' := 16383) rfl (Eff.storeB rfl rfl rfl (.tail (.tail (.tail (.tail (.tail (.tail .head))))))) ?_
      rintro _ _ ⟨rfl, rfl⟩
      refine ⟨.inl (by simp), ?_⟩
      refine JM.done rfl ?_
      refine J.region rfl ?_
      refine JO.pur rfl rfl rfl (Pur.move rfl) ?_
      refine JO.pur rfl rfl rfl (Pur.nilCheck rfl) ?_
      refine JO.pur rfl rfl rfl (Pur.fieldAddr rfl) ?_
      refine JO.pur rfl rfl rfl (Pur.load rfl (CellIn.blk rfl)) ?_
      refine JO.pur rfl rfl rfl (Pur.move rfl) ?_
      refine JO.effN rfl rfl (Eff.mapUpdate (K := intK) (k := (ch F j).num) rfl rfl rfl) ?_
      rintro _ _ ⟨rfl, rfl⟩
      rw [aset_pk g hR hnd hlt2]
      refine JO.nil ?_
      refine J.inBlock ?_
      have hback : ∀ h, Sat h (blk r.b (.cells #[.int .i64 (ch F j).fr, .int .i64 (ch F j).to, .int .i64 (ch F j).at', .bool (ch F j).wr, .slice r.ap (ch F j).pend.length r.cp, .int .i64 (ch F j).st, .slice r.am (ch F j).marks.length r.cm] 77) :: sl byE r.ap r.cp (ch F j).pend :: sl intE r.am r.cm (ch F j).marks :: star ((chL rs F.opens).eraseIdx j) :: blk b6 (.cells #[.int .i64 (ch F j).fr, .int .i64 (ch F j).to, .int .i64 (ch F j).at', .bool (ch F j).wr, .slice a38 (ch F j).pend.length c38, .int .i64 (ch F j).st, .slice a43 (ch F j).marks.length c43] 77) :: sl byE a38 c38 (ch F j).pend :: sl intE a43 c43 (ch F j).marks :: star (chL R (pk F S)) :: mpIt intK mb i25 (entsC rs F.opens) (j :: S) :: mp intK b18 (entsC R (pk F S) ++ [((ch F j).num, .pointer (some ⟨b6, 0, none⟩))]) :: blk b20 (.cells #[.bool true, .slice a13 F.bytes.length c13, .int .i64 F.next, .map (some b18)] 62) :: sl byE a13 c13 F.bytes :: blk p (.cells #[.bool true, .slice ab F.bytes.length cb, .int .i64 F.next, .map (some mb)] 62) :: sl byE ab cb F.bytes :: L) → Sat h (mpIt intK mb i25 (entsC rs F.opens) (j :: S) :: mp intK b18 (entsC (R ++ [(Cr.mk b6 a38 c38 a43 c43)]) (pk F (j :: S))) :: star (chL (R ++ [(Cr.mk b6 a38 c38 a43 c43)]) (pk F (j :: S))) :: blk b20 (.cells #[.bool true, .slice a13 F.bytes.length c13, .int .i64 F.next, .map (some b18)] 62) :: sl byE a13 c13 F.bytes :: blk p (.cells #[.bool true, .slice ab F.bytes.length cb, .int .i64 F.next, .map (some mb)] 62) :: sl byE ab cb F.bytes :: star (chL rs F.opens) :: L) := fun h s => by
        have s2 := ch_put (c' := ch F j) hrg hch s
        rw [set_same hch, set_same hrg] at s2
        have s3 : Sat h (blk b6 (.cells #[.int .i64 (ch F j).fr, .int .i64 (ch F j).to, .int .i64 (ch F j).at', .bool (ch F j).wr, .slice a38 (ch F j).pend.length c38, .int .i64 (ch F j).st, .slice a43 (ch F j).marks.length c43] 77) :: sl byE a38 c38 (ch F j).pend :: sl intE a43 c43 (ch F j).marks :: star (chL R (pk F S)) :: star (chL rs F.opens) :: mpIt intK mb i25 (entsC rs F.opens) (j :: S) :: mp intK b18 (entsC R (pk F S) ++ [((ch F j).num, .pointer (some ⟨b6, 0, none⟩))]) :: blk b20 (.cells #[.bool true, .slice a13 F.bytes.length c13, .int .i64 F.next, .map (some b18)] 62) :: sl byE a13 c13 F.bytes :: blk p (.cells #[.bool true, .slice ab F.bytes.length cb, .int .i64 F.next, .map (some mb)] 62) :: sl byE ab cb F.bytes :: L) := SubC.out h s2
        have s4 := star_snoc (B := chA (Cr.mk b6 a38 c38 a43 c43) (ch F j)) ((Sat.star (M := [blk b6 (.cells #[.int .i64 (ch F j).fr, .int .i64 (ch F j).to, .int .i64 (ch F j).at', .bool (ch F j).wr, .slice a38 (ch F j).pend.length c38, .int .i64 (ch F j).st, .slice a43 (ch F j).marks.length c43] 77), sl byE a38 c38 (ch F j).pend, sl intE a43 c43 (ch F j).marks])).2 s3)
        rw [← chL_snoc (hRp), ← pk_cons] at s4
        have e5 : entsC R (pk F S) ++ [((ch F j).num, .pointer (some ⟨b6, 0, none⟩))] = entsC (R ++ [(Cr.mk b6 a38 c38 a43 c43)]) (pk F (j :: S)) := by rw [pk_cons, entsC_snoc hRp]; rfl
        rw [e5] at s4
        exact SubC.out h s4
      exact J.weaken (.cons rfl rfl (.cons rfl rfl .nil)) (fun h s => hback h (SubC.out h s)) (ih1 (j :: S, R ++ [(Cr.mk b6 a38 c38 a43 c43)]) ⟨hnd, hlt2, by simp [hR]⟩ (by have h7 := nodup_le _ _ hnd hlt2; simp only [List.length_cons] at h7 ⊢; omega))
    · skip
      have hall2 : ∀ j, j < F.opens.length → j ∈ S := fun j hj => hall j (by rw [entsC_len hr]; exact hj)
      refine JO.pur rfl rfl rfl (Pur.extract rfl rfl) ?_
      refine JO.nil ?_
      refine J.seq rfl ?_
      refine J.condF rfl rfl ?_
      refine J.exit rfl rfl ?_
      refine J.seq rfl ?_
      refine J.pullC (A := mpIt intK mb i25 (entsC rs F.opens) S) inferInstance ?_
      refine J.imp (fun h s => s.cons_imp (B := mp intK mb (entsC rs F.opens)) (fun _ h => mpIt_done h) (fun _ h => h)) ?_
      refine J.region rfl ?_
      refine JO.pur rfl rfl rfl (Pur.move rfl) ?_
      refine JO.pur rfl rfl rfl (Pur.assign rfl) ?_
      refine JO.nil ?_
      refine J.ret rfl rfl ?_
      have hp := pk_perm hS1 hall2 hS2
      refine ⟨_, _, ⟨b20, rfl, rfl⟩, rfl, fun h s => ?_⟩
      have s2 := FA_mk (L := blk b20 (.cells #[.bool true, .slice a13 F.bytes.length c13, .int .i64 F.next, .map (some b18)] 62) :: sl byE a13 c13 F.bytes :: mp intK b18 (entsC R (pk F S)) :: star (chL R (pk F S)) :: L) (F := F) (p := p) (ab := ab) (cb := cb) (mb := mb) hr (SubC.out h s)
      refine FS_mk (F := F) (F' := ⟨F.bytes, F.next, pk F S⟩) ⟨rfl, rfl, hp, g.ord⟩ ?_
      exact FA_mk (F := ⟨F.bytes, F.next, pk F S⟩) (ab := a13) (cb := c13) (mb := b18) (rs := R) (by rw [pk_len]; exact hR) (SubC.out h s2)

end Go.Proofs.Ytgbckamaenapeaa

/- The text HSame. -/
set_option linter.unusedVariables false
set_option linter.unusedSimpArgs false
set_option maxRecDepth 10000
namespace Go.Proofs.Ytgbckamaenapeaa
open Go Go.KK Hf

theorem bytesEq_ok {L : List Asn} {a b : Option Addr} {n cp m cq : Nat} {xs ys : List UInt8} [SlIn byE L a xs] [SlIn byE L b ys] (hn : n = xs.length) (hm : m = ys.length) :
    CallS Try.prog 61 [.slice a n cp, .slice b m cq].toArray L (fun v M => v = .bool (decide (xs = ys)) ∧ M = L) := by
  refine CallS.enter Try.func61 rfl rfl rfl rfl rfl ?_
  refine J.seq rfl ?_
  refine J.region rfl ?_
  refine JO.pur rfl rfl rfl (Pur.assign rfl) ?_
  refine JO.nil ?_
  refine J.seq rfl ?_
  refine J.region rfl ?_
  refine JO.pur rfl rfl rfl (Pur.move rfl) ?_
  refine JO.pur rfl rfl rfl (Pur.convBS (E := byE) (e := 5) (by kernel_rfl) (by kernel_rfl) (by kernel_rfl) rfl hn rfl (fun _ => rfl)) ?_
  refine JO.pur rfl rfl rfl (Pur.move rfl) ?_
  refine JO.pur rfl rfl rfl (Pur.convBS (E := byE) (e := 5) (by kernel_rfl) (by kernel_rfl) (by kernel_rfl) rfl hm rfl (fun _ => rfl)) ?_
  refine JO.pur rfl rfl rfl (Pur.eqlT rfl rfl) ?_
  refine JO.pur rfl rfl rfl (Pur.assign rfl) ?_
  refine JO.nil ?_
  refine J.ret rfl rfl ?_
  exact ⟨congrArg Value.bool (decide_eq_decide.2 strB_inj), rfl⟩

theorem eqInts_ok {L : List Asn} {a b : Option Addr} {n m cap cap2 : Nat} {xs ys : List Int} [SlIn intE L a xs] [SlIn intE L b ys] (hn : n = xs.length) (hm : m = ys.length) (hb : xs.length ≤ 1000000) :
    CallS Try.prog 71 [.slice a n cap, .slice b m cap2].toArray L (fun v M => v = .bool (decide (xs = ys)) ∧ M = L) := by
  subst hn
  subst hm
  refine CallS.enter Try.func71 rfl rfl rfl rfl rfl ?_
  refine J.seq rfl ?_
  refine J.region rfl ?_
  refine JO.pur rfl rfl rfl (Pur.assign rfl) ?_
  refine JO.nil ?_
  refine J.seq rfl ?_
  refine J.seq rfl ?_
  refine J.region rfl ?_
  refine JO.pur rfl rfl rfl (Pur.move rfl) ?_
  refine JO.pur rfl rfl rfl (Pur.len rfl) ?_
  refine JO.pur rfl rfl rfl (Pur.move rfl) ?_
  refine JO.pur rfl rfl rfl (Pur.len rfl) ?_
  refine JO.pur rfl rfl rfl (Pur.neqI rfl rfl) ?_
  refine JO.nil ?_
  refine J.splitB 10 rfl (fun h10 => ?_) (fun h10 => ?_)
  · try simp only [decide_eq_true_eq, decide_eq_false_iff_not, Bool.not_eq_true', Bool.not_eq_false', Bool.and_eq_true, Bool.or_eq_true, Bool.and_eq_false_iff, Bool.or_eq_false_iff, Option.isNone_some, Option.isSome_some, Option.isNone_none, Option.isSome_none, Int.not_lt, Int.not_le, beq_iff_eq, beq_eq_false_iff_ne, bne_iff_ne, ne_eq, Bool.not_not, Decidable.not_not] at h10
    refine J.condT rfl rfl ?_
    refine J.seq rfl ?_
    refine J.region rfl ?_
    refine JO.pur rfl rfl rfl (Pur.assign rfl) ?_
    refine JO.nil ?_
    refine J.ret rfl rfl ?_
    exact ⟨congrArg Value.bool (decide_eq_false (fun e => by rw [e] at h10; omega)).symm, rfl⟩
  · try simp only [decide_eq_true_eq, decide_eq_false_iff_not, Bool.not_eq_true', Bool.not_eq_false', Bool.and_eq_true, Bool.or_eq_true, Bool.and_eq_false_iff, Bool.or_eq_false_iff, Option.isNone_some, Option.isSome_some, Option.isNone_none, Option.isSome_none, Int.not_lt, Int.not_le, beq_iff_eq, beq_eq_false_iff_ne, bne_iff_ne, ne_eq, Bool.not_not, Decidable.not_not] at h10
    refine J.condF rfl rfl ?_
    refine J.skip rfl ?_
    refine J.seq rfl ?_
    refine J.seq rfl ?_
    refine J.region rfl ?_
    refine JO.pur rfl rfl rfl (Pur.move rfl) ?_
    refine JO.pur rfl rfl rfl (Pur.len rfl) ?_
    refine JO.pur rfl rfl rfl (Pur.move rfl) ?_
    refine JO.nil ?_
    refine J.block rfl ?_
    refine J.loopF (ι := Nat) (fun i => i ≤ xs.length ∧ xs.take i = ys.take i) (fun i => [(13, .int .i64 (i : Int))]) [(0, _), (1, _), (12, _)] (fun i => L) (fun i => xs.length - i) 0 rfl (.cons rfl rfl (.cons rfl rfl (.cons rfl rfl .nil))) (.cons rfl rfl .nil) (by first | exact fun _ h => h | exact SubC.out | (dsimp only; exact SubC.out)) ⟨Nat.zero_le _, rfl⟩ ?_
    rintro i ⟨hi1, hi2⟩ ih0
    try dsimp only
    refine J.seq rfl ?_
    refine J.region rfl ?_
    refine JO.pur rfl rfl rfl (Pur.lss rfl rfl) ?_
    refine JO.nil ?_
    refine J.seq rfl ?_
    refine J.splitB 14 rfl (fun h14 => ?_) (fun h14 => ?_)
    · try simp only [decide_eq_true_eq, decide_eq_false_iff_not, Bool.not_eq_true', Bool.not_eq_false', Bool.and_eq_true, Bool.or_eq_true, Bool.and_eq_false_iff, Bool.or_eq_false_iff, Option.isNone_some, Option.isSome_some, Option.isNone_none, Option.isSome_none, Int.not_lt, Int.not_le, beq_iff_eq, beq_eq_false_iff_ne, bne_iff_ne, ne_eq, Bool.not_not, Decidable.not_not] at h14
      refine J.condT rfl rfl ?_
      refine J.skip rfl ?_
      refine J.seq rfl ?_
      refine J.block rfl ?_
      refine J.seq rfl ?_
      refine J.region rfl ?_
      refine JO.pur rfl rfl rfl (Pur.move rfl) ?_
      refine JO.pur rfl rfl rfl (Pur.assign rfl) ?_
      refine JO.nil ?_
      refine J.seq rfl ?_
      refine J.quiet rfl Try.mixed (by kernel_rfl) ?_
      refine JQ.pur rfl rfl rfl (Pur.move rfl) ?_
      refine JQ.pur rfl rfl rfl (Pur.move rfl) ?_
      refine JQ.pur rfl rfl rfl (Pur.idx rfl rfl rfl (by first | rfl | (simp; done) | omega) rfl (by omega)) ?_
      refine JQ.pur rfl rfl rfl (Pur.load rfl (CellIn.el0 rfl (List.getElem?_eq_getElem (by omega)) rfl)) ?_
      refine JQ.pur rfl rfl rfl (Pur.move rfl) ?_
      refine JQ.pur rfl rfl rfl (Pur.move rfl) ?_
      refine JQ.pur rfl rfl rfl (Pur.idx rfl rfl rfl (by first | rfl | (simp; done) | omega) rfl (by omega)) ?_
      refine JQ.pur rfl rfl rfl (Pur.load rfl (CellIn.el0 rfl (List.getElem?_eq_getElem (by omega)) rfl)) ?_
      refine JQ.pur rfl rfl rfl (Pur.neqI rfl rfl) ?_
      refine JQ.nil ?_
      refine J.splitB 24 rfl (fun h24 => ?_) (fun h24 => ?_)
      · try simp only [decide_eq_true_eq, decide_eq_false_iff_not, Bool.not_eq_true', Bool.not_eq_false', Bool.and_eq_true, Bool.or_eq_true, Bool.and_eq_false_iff, Bool.or_eq_false_iff, Option.isNone_some, Option.isSome_some, Option.isNone_none, Option.isSome_none, Int.not_lt, Int.not_le, beq_iff_eq, beq_eq_false_iff_ne, bne_iff_ne, ne_eq, Bool.not_not, Decidable.not_not] at h24
        refine J.condT rfl rfl ?_
        refine J.seq rfl ?_
        refine J.region rfl ?_
        refine JO.pur rfl rfl rfl (Pur.assign rfl) ?_
        refine JO.nil ?_
        refine J.ret rfl rfl ?_
        exact ⟨congrArg Value.bool (decide_eq_false (fun e => h24 (by simp [e]))).symm, rfl⟩
      · try simp only [decide_eq_true_eq, decide_eq_false_iff_not, Bool.not_eq_true', Bool.not_eq_false', Bool.and_eq_true, Bool.or_eq_true, Bool.and_eq_false_iff, Bool.or_eq_false_iff, Option.isNone_some, Option.isSome_some, Option.isNone_none, Option.isSome_none, Int.not_lt, Int.not_le, beq_iff_eq, beq_eq_false_iff_ne, bne_iff_ne, ne_eq, Bool.not_not, Decidable.not_not] at h24
        refine J.condF rfl rfl ?_
        refine J.skip rfl ?_
        refine J.inBlock ?_
        refine J.region rfl ?_
        refine JO.pur rfl rfl rfl (Pur.add rfl rfl (wr64 (by omega))) ?_
        refine JO.pur rfl rfl rfl (Pur.move rfl) ?_
        refine JO.nil ?_
        exact J.weaken (.cons rfl (congrArg (Value.int .i64) (by omega)) (.cons rfl rfl (.cons rfl rfl (.cons rfl rfl .nil)))) (by first | exact fun _ h => h | exact SubC.out | (dsimp only; exact SubC.out)) (ih0 (i + 1) ⟨by omega, take_succ_eq hi2 (by omega) (by omega) h24⟩ (by omega))
    · try simp only [decide_eq_true_eq, decide_eq_false_iff_not, Bool.not_eq_true', Bool.not_eq_false', Bool.and_eq_true, Bool.or_eq_true, Bool.and_eq_false_iff, Bool.or_eq_false_iff, Option.isNone_some, Option.isSome_some, Option.isNone_none, Option.isSome_none, Int.not_lt, Int.not_le, beq_iff_eq, beq_eq_false_iff_ne, bne_iff_ne, ne_eq, Bool.not_not, Decidable.not_not] at h14
      refine J.condF rfl rfl ?_
      refine J.exit rfl rfl ?_
      refine J.seq rfl ?_
      refine J.region rfl ?_
      refine JO.pur rfl rfl rfl (Pur.assign rfl) ?_
      refine JO.nil ?_
      refine J.ret rfl rfl ?_
      exact ⟨congrArg Value.bool (decide_eq_true (take_all_eq hi2 (by omega) (by omega))).symm, rfl⟩

theorem chsame_ok {L : List Asn} {r1 r2 : Cr} {c : Ch} [BlkIn L r1.b (.cells #[.int .i64 c.fr, .int .i64 c.to, .int .i64 c.at', .bool c.wr, .slice r1.ap c.pend.length r1.cp, .int .i64 c.st, .slice r1.am c.marks.length r1.cm] 77)] [BlkIn L r2.b (.cells #[.int .i64 c.fr, .int .i64 c.to, .int .i64 c.at', .bool c.wr, .slice r2.ap c.pend.length r2.cp, .int .i64 c.st, .slice r2.am c.marks.length r2.cm] 77)] [SlIn byE L r1.ap c.pend] [SlIn byE L r2.ap c.pend] [SlIn intE L r1.am c.marks] [SlIn intE L r2.am c.marks] (hm : c.marks.length ≤ 1000000) :
    CallS Try.prog 63 [.pointer (some ⟨r1.b, 0, none⟩), .pointer (some ⟨r2.b, 0, none⟩)].toArray L (fun v M => v = .bool true ∧ M = L) := by
  refine CallS.enter Try.func63 rfl rfl rfl rfl rfl ?_
  refine J.seq rfl ?_
  refine J.region rfl ?_
  refine JO.pur rfl rfl rfl (Pur.assign rfl) ?_
  refine JO.nil ?_
  refine J.seq rfl ?_
  refine J.quiet rfl Try.mixed (by kernel_rfl) ?_
  refine JQ.pur rfl rfl rfl (Pur.move rfl) ?_
  refine JQ.pur rfl rfl rfl (Pur.nilCheck rfl) ?_
  refine JQ.pur rfl rfl rfl (Pur.fieldAddr rfl) ?_
  refine JQ.pur rfl rfl rfl (Pur.load rfl (CellIn.blk rfl)) ?_
  refine JQ.pur rfl rfl rfl (Pur.move rfl) ?_
  refine JQ.pur rfl rfl rfl (Pur.nilCheck rfl) ?_
  refine JQ.pur rfl rfl rfl (Pur.fieldAddr rfl) ?_
  refine JQ.pur rfl rfl rfl (Pur.load rfl (CellIn.blk rfl)) ?_
  refine JQ.pur rfl rfl rfl (Pur.eqlI rfl rfl) ?_
  refine JQ.setv (u' := .bool true) 13 rfl (congrArg Value.bool (by simp)) ?_
  refine JQ.pur rfl rfl rfl (Pur.move rfl) ?_
  refine JQ.pur rfl rfl rfl (Pur.move rfl) ?_
  refine JQ.pur rfl rfl rfl (Pur.nilCheck rfl) ?_
  refine JQ.pur rfl rfl rfl (Pur.fieldAddr rfl) ?_
  refine JQ.pur rfl rfl rfl (Pur.load rfl (CellIn.blk rfl)) ?_
  refine JQ.pur rfl rfl rfl (Pur.move rfl) ?_
  refine JQ.pur rfl rfl rfl (Pur.nilCheck rfl) ?_
  refine JQ.pur rfl rfl rfl (Pur.fieldAddr rfl) ?_
  refine JQ.pur rfl rfl rfl (Pur.load rfl (CellIn.blk rfl)) ?_
  refine JQ.pur rfl rfl rfl (Pur.eqlI rfl rfl) ?_
  refine JQ.setv (u' := .bool true) 23 rfl (congrArg Value.bool (by simp)) ?_
  refine JQ.pur rfl rfl rfl (Pur.pickT rfl rfl) ?_
  refine JQ.pur rfl rfl rfl (Pur.move rfl) ?_
  refine JQ.pur rfl rfl rfl (Pur.move rfl) ?_
  refine JQ.pur rfl rfl rfl (Pur.nilCheck rfl) ?_
  refine JQ.pur rfl rfl rfl (Pur.fieldAddr rfl) ?_
  refine JQ.pur rfl rfl rfl (Pur.load rfl (CellIn.blk rfl)) ?_
  refine JQ.pur rfl rfl rfl (Pur.move rfl) ?_
  refine JQ.pur rfl rfl rfl (Pur.nilCheck rfl) ?_
  refine JQ.pur rfl rfl rfl (Pur.fieldAddr rfl) ?_
  refine JQ.pur rfl rfl rfl (Pur.load rfl (CellIn.blk rfl)) ?_
  refine JQ.pur rfl rfl rfl (Pur.eqlI rfl rfl) ?_
  refine JQ.setv (u' := .bool true) 34 rfl (congrArg Value.bool (by simp)) ?_
  refine JQ.pur rfl rfl rfl (Pur.pickT rfl rfl) ?_
  refine JQ.pur rfl rfl rfl (Pur.move rfl) ?_
  refine JQ.pur rfl rfl rfl (Pur.move rfl) ?_
  refine JQ.pur rfl rfl rfl (Pur.nilCheck rfl) ?_
  refine JQ.pur rfl rfl rfl (Pur.fieldAddr rfl) ?_
  refine JQ.pur rfl rfl rfl (Pur.load rfl (CellIn.blk rfl)) ?_
  refine JQ.pur rfl rfl rfl (Pur.move rfl) ?_
  refine JQ.pur rfl rfl rfl (Pur.nilCheck rfl) ?_
  refine JQ.pur rfl rfl rfl (Pur.fieldAddr rfl) ?_
  refine JQ.pur rfl rfl rfl (Pur.load rfl (CellIn.blk rfl)) ?_
  refine JQ.pur rfl rfl rfl (Pur.eqlB rfl rfl) ?_
  refine JQ.setv (u' := .bool true) 45 rfl (congrArg Value.bool (by simp)) ?_
  refine JQ.pur rfl rfl rfl (Pur.pickT rfl rfl) ?_
  refine JQ.pur rfl rfl rfl (Pur.move rfl) ?_
  refine JQ.pur rfl rfl rfl (Pur.move rfl) ?_
  refine JQ.pur rfl rfl rfl (Pur.nilCheck rfl) ?_
  refine JQ.pur rfl rfl rfl (Pur.fieldAddr rfl) ?_
  refine JQ.pur rfl rfl rfl (Pur.load rfl (CellIn.blk rfl)) ?_
  refine JQ.pur rfl rfl rfl (Pur.move rfl) ?_
  refine JQ.pur rfl rfl rfl (Pur.nilCheck rfl) ?_
  refine JQ.pur rfl rfl rfl (Pur.fieldAddr rfl) ?_
  refine JQ.pur rfl rfl rfl (Pur.load rfl (CellIn.blk rfl)) ?_
  refine JQ.callE rfl rfl rfl (bytesEq_ok (xs := c.pend) (ys := c.pend) rfl rfl) ?_
  refine JQ.setv (u' := .bool true) 56 rfl (congrArg Value.bool (by simp)) ?_
  refine JQ.pur rfl rfl rfl (Pur.pickT rfl rfl) ?_
  refine JQ.pur rfl rfl rfl (Pur.move rfl) ?_
  refine JQ.pur rfl rfl rfl (Pur.move rfl) ?_
  refine JQ.pur rfl rfl rfl (Pur.nilCheck rfl) ?_
  refine JQ.pur rfl rfl rfl (Pur.fieldAddr rfl) ?_
  refine JQ.pur rfl rfl rfl (Pur.load rfl (CellIn.blk rfl)) ?_
  refine JQ.pur rfl rfl rfl (Pur.move rfl) ?_
  refine JQ.pur rfl rfl rfl (Pur.nilCheck rfl) ?_
  refine JQ.pur rfl rfl rfl (Pur.fieldAddr rfl) ?_
  refine JQ.pur rfl rfl rfl (Pur.load rfl (CellIn.blk rfl)) ?_
  refine JQ.callE rfl rfl rfl (eqInts_ok (xs := c.marks) (ys := c.marks) rfl rfl hm) ?_
  refine JQ.setv (u' := .bool true) 67 rfl (congrArg Value.bool (by simp)) ?_
  refine JQ.pur rfl rfl rfl (Pur.pickT rfl rfl) ?_
  refine JQ.pur rfl rfl rfl (Pur.assign rfl) ?_
  refine JQ.nil ?_
  refine J.ret rfl rfl ?_
  exact ⟨rfl, rfl⟩

theorem ix_of {F : Fl} {j : Nat} {c : Ch} (u : F.opens.Pairwise (fun c d => c.num ≠ d.num)) (h : F.opens[j]? = some c) : ix F c.num = some j := by
  obtain ⟨hj, e⟩ := List.getElem?_eq_some_iff.1 h
  unfold ix
  rw [List.findIdx?_eq_some_iff_getElem]
  refine ⟨hj, decide_eq_true (by rw [e]), fun i hi => ?_⟩
  have := List.pairwise_iff_getElem.1 u i j (by omega) hj hi
  rw [e] at this
  simpa using fun h => this h.symm
theorem eqFunc_ok {L : List Asn} {mb1 mb2 : Nat} {F1 F2 : Fl} {rs1 rs2 : List Cr} (s : Sm F2 F1) (hr1 : rs1.length = F1.opens.length) (hr2 : rs2.length = F2.opens.length) (hmk : ∀ c ∈ F2.opens, c.marks.length ≤ 1000000) :
    CallS Try.prog 62 [.map (some mb1), .map (some mb2), .func (.func 63) #[] #[]].toArray (mp intK mb1 (entsC rs1 F1.opens) :: mp intK mb2 (entsC rs2 F2.opens) :: star (chL rs1 F1.opens) :: star (chL rs2 F2.opens) :: L) (fun v M => v = .bool true ∧ M = mp intK mb1 (entsC rs1 F1.opens) :: mp intK mb2 (entsC rs2 F2.opens) :: star (chL rs1 F1.opens) :: star (chL rs2 F2.opens) :: L) := by
  refine CallS.enter Try.func62 rfl rfl rfl rfl rfl ?_
  refine J.seq rfl ?_
  refine J.region rfl ?_
  refine JO.pur rfl rfl rfl (Pur.assign rfl) ?_
  refine JO.nil ?_
  refine J.seq rfl ?_
  refine J.seq rfl ?_
  refine J.region rfl ?_
  refine JO.pur rfl rfl rfl (Pur.move rfl) ?_
  refine JO.pur rfl rfl rfl (Pur.lenM rfl) ?_
  refine JO.pur rfl rfl rfl (Pur.move rfl) ?_
  refine JO.pur rfl rfl rfl (Pur.lenM rfl) ?_
  refine JO.pur rfl rfl rfl (Pur.neqI rfl rfl) ?_
  refine JO.setv (u' := .bool false) 15 rfl (congrArg Value.bool (by rw [entsC_len hr1, entsC_len hr2, s.p.length_eq]; simp)) ?_
  refine JO.nil ?_
  refine J.condF rfl rfl ?_
  refine J.skip rfl ?_
  refine J.seq rfl ?_
  refine J.seq rfl ?_
  refine J.region rfl ?_
  refine JO.pur rfl rfl rfl (Pur.move rfl) ?_
  refine JO.eff rfl rfl rfl (Eff.range rfl) ?_
  rintro _ _ ⟨i17, rfl, rfl⟩
  refine JO.nil ?_
  refine J.block rfl ?_
  refine J.loopF (ι := List Nat) (fun q => q.Nodup ∧ ∀ j ∈ q, j < F1.opens.length) (fun q => []) [(1, _), (2, _), (17, _)] (fun q => mpIt intK mb1 i17 (entsC rs1 F1.opens) q :: mp intK mb2 (entsC rs2 F2.opens) :: star (chL rs1 F1.opens) :: star (chL rs2 F2.opens) :: L) (fun q => F1.opens.length - q.length) [] rfl (.cons rfl rfl (.cons rfl rfl (.cons rfl rfl .nil))) .nil (by first | exact fun _ h => h | exact SubC.out | (dsimp only; exact SubC.out)) ⟨List.nodup_nil, by simp⟩ ?_
  rintro S ⟨hS1, hS2⟩ ih0
  try dsimp only
  refine J.seq rfl ?_
  refine J.region rfl ?_
  refine JO.eff rfl rfl rfl (Eff.next rfl) ?_
  rintro _ _ (⟨j, kk, vv, hmj, hjS, rfl, rfl⟩ | ⟨hall, rfl, rfl⟩)
  · skip
    obtain ⟨r1, c, hrg, hch, rfl, rfl, hjl⟩ := ents_inv hr1 hmj
    have hnd : (j :: S).Nodup := List.nodup_cons.2 ⟨hjS, hS1⟩
    have hlt2 : ∀ x ∈ j :: S, x < F1.opens.length := fun x hx => by rcases List.mem_cons.1 hx with rfl | hx; exact hjl; exact hS2 x hx
    have hc2 : c ∈ F2.opens := s.p.mem_iff.1 (List.mem_of_getElem? hch)
    obtain ⟨j2, hj2, ej2⟩ := List.getElem_of_mem hc2
    have hch2 : F2.opens[j2]? = some c := by rw [List.getElem?_eq_getElem hj2, ej2]
    have hix2 := ix_of s.u hch2
    obtain ⟨r2, hrg2⟩ : ∃ r2, rs2[j2]? = some r2 := ⟨_, List.getElem?_eq_getElem (by omega)⟩
    have hmc := hmk c hc2
    refine JO.pur rfl rfl rfl (Pur.extract rfl rfl) ?_
    refine JO.nil ?_
    refine J.seq rfl ?_
    refine J.condT rfl rfl ?_
    refine J.skip rfl ?_
    refine J.block rfl ?_
    refine J.seq rfl ?_
    refine J.region rfl ?_
    refine JO.pur rfl rfl rfl (Pur.entry rfl hmj) ?_
    refine JO.pur rfl rfl rfl (Pur.extract rfl rfl) ?_
    refine JO.setv (u' := .int .i64 c.num) 21 rfl rfl ?_
    refine JO.pur rfl rfl rfl (Pur.extract rfl rfl) ?_
    refine JO.setv (u' := .pointer (some ⟨r1.b, 0, none⟩)) 22 rfl rfl ?_
    refine JO.pur rfl rfl rfl (Pur.assign rfl) ?_
    refine JO.pur rfl rfl rfl (Pur.assign rfl) ?_
    refine JO.nil ?_
    refine J.seq rfl ?_
    refine J.region rfl ?_
    refine JO.pur rfl rfl rfl (Pur.move rfl) ?_
    refine JO.pur rfl rfl rfl (Pur.move rfl) ?_
    refine JO.pur rfl rfl rfl (Pur.lookupOk (K := intK) (k := c.num) rfl rfl) ?_
    refine JO.setv (u' := .tuple #[.pointer (some ⟨r2.b, 0, none⟩), .bool true]) 26 rfl (by rw [look_yes hr2 hix2 hrg2]; rfl) ?_
    refine JO.pur rfl rfl rfl (Pur.move rfl) ?_
    refine JO.pur rfl rfl rfl (Pur.extract rfl rfl) ?_
    refine JO.setv (u' := .pointer (some ⟨r2.b, 0, none⟩)) 27 rfl rfl ?_
    refine JO.pur rfl rfl rfl (Pur.extract rfl rfl) ?_
    refine JO.setv (u' := .bool true) 28 rfl (congrArg Value.bool (rfl)) ?_
    refine JO.pur rfl rfl rfl (Pur.assign rfl) ?_
    refine JO.pur rfl rfl rfl (Pur.assign rfl) ?_
    refine JO.nil ?_
    refine J.seq rfl ?_
    refine J.imp (fun h s => ch_take (rs := rs1) (cs := F1.opens) (i := j) hrg hch s) ?_
    refine J.imp (fun h s => ch_take (rs := rs2) (cs := F2.opens) (i := j2) hrg2 hch2 s) ?_
    refine J.region rfl ?_
    refine JO.pur rfl rfl rfl (Pur.move rfl) ?_
    refine JO.pur rfl rfl rfl (Pur.not rfl) ?_
    refine JO.pur rfl rfl rfl (Pur.move rfl) ?_
    refine JO.pur rfl rfl rfl (Pur.move rfl) ?_
    refine JO.pur rfl rfl rfl (Pur.move rfl) ?_
    refine JO.pur rfl rfl rfl (Pur.move rfl) ?_
    refine JO.effR rfl rfl rfl (Eff.callV rfl rfl (chsame_ok (r1 := r1) (r2 := r2) (c := c) (by omega))) ?_
    refine JO.setv (u' := .bool true) 35 rfl (congrArg Value.bool (rfl)) ?_
    refine JO.pur rfl rfl rfl (Pur.not rfl) ?_
    refine JO.pur rfl rfl rfl (Pur.pickF rfl rfl) ?_
    refine JO.nil ?_
    refine J.condF rfl rfl ?_
    refine J.skip rfl ?_
    refine J.inBlock ?_
    exact J.weaken (.cons rfl rfl (.cons rfl rfl (.cons rfl rfl .nil))) (fun h s => by have s2 := ch_put (c' := c) (b := r2.b) (ap := r2.ap) (cp := r2.cp) (am := r2.am) (cm := r2.cm) (L := blk r1.b (.cells #[.int .i64 c.fr, .int .i64 c.to, .int .i64 c.at', .bool c.wr, .slice r1.ap c.pend.length r1.cp, .int .i64 c.st, .slice r1.am c.marks.length r1.cm] 77) :: sl byE r1.ap r1.cp c.pend :: sl intE r1.am r1.cm c.marks :: star ((chL rs1 F1.opens).eraseIdx j) :: mpIt intK mb1 i17 (entsC rs1 F1.opens) (j :: S) :: mp intK mb2 (entsC rs2 F2.opens) :: L) hrg2 hch2 (SubC.out h s); rw [set_same hch2, set_same hrg2] at s2; have s3 := ch_put (c' := c) (b := r1.b) (ap := r1.ap) (cp := r1.cp) (am := r1.am) (cm := r1.cm) (L := star (chL rs2 F2.opens) :: mpIt intK mb1 i17 (entsC rs1 F1.opens) (j :: S) :: mp intK mb2 (entsC rs2 F2.opens) :: L) hrg hch (SubC.out h s2); rw [set_same hch, set_same hrg] at s3; exact SubC.out h s3) (ih0 (j :: S) ⟨hnd, hlt2⟩ (by have h7 := nodup_le _ _ hnd hlt2; simp only [List.length_cons] at h7 ⊢; omega))
  · skip
    refine JO.pur rfl rfl rfl (Pur.extract rfl rfl) ?_
    refine JO.nil ?_
    refine J.seq rfl ?_
    refine J.condF rfl rfl ?_
    refine J.exit rfl rfl ?_
    refine J.seq rfl ?_
    refine J.imp (fun h s => s.cons_imp (B := mp intK mb1 (entsC rs1 F1.opens)) (fun _ h => mpIt_done h) (fun _ h => h)) ?_
    refine J.region rfl ?_
    refine JO.pur rfl rfl rfl (Pur.assign rfl) ?_
    refine JO.nil ?_
    refine J.ret rfl rfl ?_
    exact ⟨rfl, rfl⟩

theorem Same_ok {L : List Asn} {p1 p2 : Nat} {F1 F2 : Fl} (s : Sm F2 F1) (hmk : ∀ c ∈ F2.opens, c.marks.length ≤ 1000000) :
    CallS Try.prog 36 [.pointer (some ⟨p1, 0, none⟩), .pointer (some ⟨p2, 0, none⟩)].toArray (FA p1 F1 :: FA p2 F2 :: L) (fun v M => v = .bool true ∧ M = FA p1 F1 :: FA p2 F2 :: L) := by
  refine CallS.ent ?_
  refine CallS.enter Try.func36 rfl rfl rfl rfl rfl ?_
  refine J.seq rfl ?_
  refine FA_open fun ab1 cb1 mb1 rs1 hr1 => ?_
  refine J.pullC (A := FA p2 F2) inferInstance ?_
  refine FA_open fun ab2 cb2 mb2 rs2 hr2 => ?_
  refine J.region rfl ?_
  refine JO.pur rfl rfl rfl (Pur.assign rfl) ?_
  refine JO.nil ?_
  refine J.seq rfl ?_
  refine J.seq rfl ?_
  refine J.region rfl ?_
  refine JO.pur rfl rfl rfl (Pur.move rfl) ?_
  refine JO.effR rfl rfl rfl (Eff.call rfl (none_ok)) ?_
  refine JO.setv (u' := .bool false) 6 rfl (congrArg Value.bool (rfl)) ?_
  refine JO.pur rfl rfl rfl (Pur.move rfl) ?_
  refine JO.pur rfl rfl rfl (Pur.move rfl) ?_
  refine JO.effR rfl rfl rfl (Eff.call rfl (none_ok)) ?_
  refine JO.setv (u' := .bool false) 9 rfl (congrArg Value.bool (rfl)) ?_
  refine JO.pur rfl rfl rfl (Pur.pickF rfl rfl) ?_
  refine JO.nil ?_
  refine J.condF rfl rfl ?_
  refine J.skip rfl ?_
  refine J.seq rfl ?_
  refine J.imp (M := mp intK mb1 (entsC rs1 F1.opens) :: mp intK mb2 (entsC rs2 F2.opens) :: star (chL rs1 F1.opens) :: star (chL rs2 F2.opens) :: blk p1 (.cells #[.bool true, .slice ab1 F1.bytes.length cb1, .int .i64 F1.next, .map (some mb1)] 62) :: sl byE ab1 cb1 F1.bytes :: blk p2 (.cells #[.bool true, .slice ab2 F2.bytes.length cb2, .int .i64 F2.next, .map (some mb2)] 62) :: sl byE ab2 cb2 F2.bytes :: L) (fun h s => SubC.out h s) ?_
  refine J.quiet rfl Try.mixed (by kernel_rfl) ?_
  refine JQ.pur rfl rfl rfl (Pur.move rfl) ?_
  refine JQ.pur rfl rfl rfl (Pur.nilCheck rfl) ?_
  refine JQ.pur rfl rfl rfl (Pur.fieldAddr rfl) ?_
  refine JQ.pur rfl rfl rfl (Pur.load rfl (CellIn.blk rfl)) ?_
  refine JQ.pur rfl rfl rfl (Pur.move rfl) ?_
  refine JQ.pur rfl rfl rfl (Pur.nilCheck rfl) ?_
  refine JQ.pur rfl rfl rfl (Pur.fieldAddr rfl) ?_
  refine JQ.pur rfl rfl rfl (Pur.load rfl (CellIn.blk rfl)) ?_
  refine JQ.callE rfl rfl rfl (bytesEq_ok (xs := F1.bytes) (ys := F2.bytes) rfl rfl) ?_
  refine JQ.setv (u' := .bool true) 25 rfl (congrArg Value.bool (by simp [s.b])) ?_
  refine JQ.pur rfl rfl rfl (Pur.move rfl) ?_
  refine JQ.pur rfl rfl rfl (Pur.move rfl) ?_
  refine JQ.pur rfl rfl rfl (Pur.nilCheck rfl) ?_
  refine JQ.pur rfl rfl rfl (Pur.fieldAddr rfl) ?_
  refine JQ.pur rfl rfl rfl (Pur.load rfl (CellIn.blk rfl)) ?_
  refine JQ.pur rfl rfl rfl (Pur.move rfl) ?_
  refine JQ.pur rfl rfl rfl (Pur.nilCheck rfl) ?_
  refine JQ.pur rfl rfl rfl (Pur.fieldAddr rfl) ?_
  refine JQ.pur rfl rfl rfl (Pur.load rfl (CellIn.blk rfl)) ?_
  refine JQ.pur rfl rfl rfl (Pur.eqlI rfl rfl) ?_
  refine JQ.setv (u' := .bool true) 35 rfl (congrArg Value.bool (by simp [s.n])) ?_
  refine JQ.pur rfl rfl rfl (Pur.pickT rfl rfl) ?_
  refine JQ.pur rfl rfl rfl (Pur.move rfl) ?_
  refine JQ.pur rfl rfl rfl (Pur.move rfl) ?_
  refine JQ.pur rfl rfl rfl (Pur.nilCheck rfl) ?_
  refine JQ.pur rfl rfl rfl (Pur.fieldAddr rfl) ?_
  refine JQ.pur rfl rfl rfl (Pur.load rfl (CellIn.blk rfl)) ?_
  refine JQ.pur rfl rfl rfl (Pur.move rfl) ?_
  refine JQ.pur rfl rfl rfl (Pur.nilCheck rfl) ?_
  refine JQ.pur rfl rfl rfl (Pur.fieldAddr rfl) ?_
  refine JQ.pur rfl rfl rfl (Pur.load rfl (CellIn.blk rfl)) ?_
  refine JQ.callE rfl rfl rfl (eqFunc_ok s hr1 hr2 hmk) ?_
  refine JQ.setv (u' := .bool true) 46 rfl (congrArg Value.bool (rfl)) ?_
  refine JQ.pur rfl rfl rfl (Pur.pickT rfl rfl) ?_
  refine JQ.pur rfl rfl rfl (Pur.assign rfl) ?_
  refine JQ.nil ?_
  refine J.ret rfl rfl ?_
  refine ⟨_, _, ⟨rfl, rfl⟩, rfl, fun h s => ?_⟩
  have s2 := FA_mk (L := blk p1 (.cells #[.bool true, .slice ab1 F1.bytes.length cb1, .int .i64 F1.next, .map (some mb1)] 62) :: sl byE ab1 cb1 F1.bytes :: mp intK mb1 (entsC rs1 F1.opens) :: star (chL rs1 F1.opens) :: L) (F := F2) (p := p2) (ab := ab2) (cb := cb2) (mb := mb2) hr2 (SubC.out h s)
  exact FA_mk (F := F1) (ab := ab1) (cb := cb1) (mb := mb1) hr1 (SubC.out h s2)

theorem SameS_ok {L : List Asn} {p1 p2 : Nat} {F : Fl} (hmk : ∀ c ∈ F.opens, c.marks.length ≤ 1000000) : CallS Try.prog 36 [.pointer (some ⟨p1, 0, none⟩), .pointer (some ⟨p2, 0, none⟩)].toArray (FS p1 F :: FA p2 F :: L) (fun v M => v = .bool true ∧ M = FS p1 F :: FA p2 F :: L) := FS_call fun F' s => by
  refine (Same_ok s hmk).mono ?_
  rintro v M ⟨rfl, rfl⟩
  exact ⟨_, ⟨rfl, rfl⟩, fun h hs => FS_mk s hs⟩
end Go.Proofs.Ytgbckamaenapeaa
