/-
  A part of the proof of the claim that this folder bears.
-/
import Derived.Test.YtgbckamaenapeaaPAG
import Derived.Test.YtgbckamaenapeaaPAE
/- The text HRf3. -/
set_option linter.unusedVariables false
set_option linter.unusedSimpArgs false
set_option maxRecDepth 10000
namespace Go.Proofs.Ytgbckamaenapeaa
open Go Go.KK Hf

theorem ix_upd {F : Fl} {n : Int} {i : Nat} {c : Ch} (h : ix F n = some i) (hn : c.num = (ch F i).num) : ix (upd F i c) n = some i := by
  obtain ⟨h1, h2, h3⟩ := ix_some h
  have e : ∀ l : List Ch, l.findIdx? (fun c => decide (n = c.num)) = (l.map (·.num)).findIdx? (fun m => decide (n = m)) := fun l => by rw [List.findIdx?_map]; rfl
  unfold ix at h ⊢
  rw [e] at h ⊢
  rw [show (upd F i c).opens = F.opens.set i c from rfl, set_nums h2 hn]; exact h
theorem ch_upd {F : Fl} {i : Nat} {c : Ch} (h : i < F.opens.length) : ch (upd F i c) i = c := by
  unfold ch upd; rw [List.getD_eq_getElem?_getD, List.getElem?_set_self h]; rfl
theorem rec_eta (r : Cr) : (⟨r.b, r.ap, r.cp, r.am, r.cm⟩ : Cr) = r := rfl
theorem rlast_no {L : List Asn} {p : Nat} {F : Fl} {n : Int} {k : Nat} (g : Hf.Good F k) (hk : k ≤ 100000) (hx : ix F n = none) :
    CallS Try.prog 66 [.pointer (some ⟨p, 0, none⟩), .int .i64 n].toArray (RA p F :: L) (fun v M => v = .tuple #[.int .i64 0, .int .i64 0, .int .i64 5] ∧ M = RA p F :: L) := by
  refine CallS.ent ?_
  refine CallS.enter Try.func66 rfl rfl rfl rfl rfl ?_
  refine J.seq rfl ?_
  refine RA_open fun ab cb ao co rs hr => ?_
  refine J.region rfl ?_
  refine JO.pur rfl rfl rfl (Pur.assign rfl) ?_
  refine JO.pur rfl rfl rfl (Pur.assign rfl) ?_
  refine JO.pur rfl rfl rfl (Pur.assign rfl) ?_
  refine JO.nil ?_
  refine J.seq rfl ?_
  refine J.region rfl ?_
  refine JO.pur rfl rfl rfl (Pur.move rfl) ?_
  refine JO.pur rfl rfl rfl (Pur.move rfl) ?_
  refine JO.effR rfl rfl rfl (Eff.call rfl (rfind_no hr (Nat.le_trans g.ol hk) hx)) ?_
  refine JO.pur rfl rfl rfl (Pur.assign rfl) ?_
  refine JO.nil ?_
  refine J.seq rfl ?_
  refine J.seq rfl ?_
  refine J.region rfl ?_
  refine JO.pur rfl rfl rfl (Pur.move rfl) ?_
  refine JO.pur rfl rfl rfl (Pur.lss rfl rfl) ?_
  refine JO.setv (u' := .bool true) 14 rfl (congrArg Value.bool (rfl)) ?_
  refine JO.nil ?_
  refine J.condT rfl rfl ?_
  refine J.seq rfl ?_
  refine J.region rfl ?_
  refine JO.pur rfl rfl rfl (Pur.assign rfl) ?_
  refine JO.pur rfl rfl rfl (Pur.assign rfl) ?_
  refine JO.pur rfl rfl rfl (Pur.assign rfl) ?_
  refine JO.nil ?_
  refine J.ret rfl rfl ?_
  refine ⟨_, _, ⟨rfl, rfl⟩, rfl, fun h s => ?_⟩
  exact RA_mk (ab := ab) (cb := cb) (ao := ao) (co := co) hr (SubC.out h s)

theorem rlast_emp {L : List Asn} {p : Nat} {F : Fl} {n : Int} {i : Nat} {k : Nat} (g : Hf.Good F k) (hk : k ≤ 100000) (hx : ix F n = some i) (hme : (ch F i).marks = []) :
    CallS Try.prog 66 [.pointer (some ⟨p, 0, none⟩), .int .i64 n].toArray (RA p F :: L) (fun v M => v = .tuple #[.int .i64 0, .int .i64 0, .int .i64 230] ∧ M = RA p F :: L) := by
  refine CallS.ent ?_
  refine CallS.enter Try.func66 rfl rfl rfl rfl rfl ?_
  refine J.seq rfl ?_
  refine RA_open fun ab cb ao co rs hr => ?_
  obtain ⟨hil, hch, hnum⟩ := ix_some hx
  obtain ⟨r, hrg⟩ : ∃ r, rs[i]? = some r := ⟨_, List.getElem?_eq_getElem (by omega)⟩
  have hrl := rcL_len hr
  have hrc := rcL_get hrg hch
  have gc := g.gc _ (ch_mem hx)
  have gmk := g.mks _ (ch_mem hx)
  have gb := g.b4
  have gf0 := gc.f0
  have gft := gc.ft
  have gt4 := gc.t4
  have gfa := gc.fa
  have ga4 := gc.at4
  refine J.region rfl ?_
  refine JO.pur rfl rfl rfl (Pur.assign rfl) ?_
  refine JO.pur rfl rfl rfl (Pur.assign rfl) ?_
  refine JO.pur rfl rfl rfl (Pur.assign rfl) ?_
  refine JO.nil ?_
  refine J.seq rfl ?_
  refine J.region rfl ?_
  refine JO.pur rfl rfl rfl (Pur.move rfl) ?_
  refine JO.pur rfl rfl rfl (Pur.move rfl) ?_
  refine JO.effR rfl rfl rfl (Eff.call rfl (rfind_yes hr (Nat.le_trans g.ol hk) hx)) ?_
  refine JO.pur rfl rfl rfl (Pur.assign rfl) ?_
  refine JO.nil ?_
  refine J.seq rfl ?_
  refine J.seq rfl ?_
  refine J.region rfl ?_
  refine JO.pur rfl rfl rfl (Pur.move rfl) ?_
  refine JO.pur rfl rfl rfl (Pur.lss rfl rfl) ?_
  refine JO.setv (u' := .bool false) 14 rfl (congrArg Value.bool (by simp)) ?_
  refine JO.nil ?_
  refine J.condF rfl rfl ?_
  refine J.skip rfl ?_
  refine J.seq rfl ?_
  refine J.region rfl ?_
  refine JO.pur rfl rfl rfl (Pur.move rfl) ?_
  refine JO.pur rfl rfl rfl (Pur.nilCheck rfl) ?_
  refine JO.pur rfl rfl rfl (Pur.fieldAddr rfl) ?_
  refine JO.pur rfl rfl rfl (Pur.load rfl (CellIn.blk rfl)) ?_
  refine JO.pur rfl rfl rfl (Pur.move rfl) ?_
  refine JO.pur rfl rfl rfl (Pur.idx rfl rfl rfl (by first | rfl | (simp; done) | omega) rfl (by omega)) ?_
  refine JO.pur rfl rfl rfl (Pur.fieldAddr rfl) ?_
  refine JO.pur rfl rfl rfl (Pur.load rfl (CellIn.el rfl hrc rfl)) ?_
  refine JO.setv (u' := .slice r.am (ch F i).marks.length r.cm) 22 rfl rfl ?_
  refine JO.pur rfl rfl rfl (Pur.len rfl) ?_
  refine JO.pur rfl rfl rfl (Pur.sub rfl rfl (wr64 (by omega))) ?_
  refine JO.pur rfl rfl rfl (Pur.assign rfl) ?_
  refine JO.nil ?_
  refine J.seq rfl ?_
  refine J.seq rfl ?_
  refine J.region rfl ?_
  refine JO.pur rfl rfl rfl (Pur.move rfl) ?_
  refine JO.pur rfl rfl rfl (Pur.lss rfl rfl) ?_
  refine JO.setv (u' := .bool true) 26 rfl (congrArg Value.bool (by rw [hme]; rfl)) ?_
  refine JO.nil ?_
  refine J.condT rfl rfl ?_
  refine J.seq rfl ?_
  refine J.region rfl ?_
  refine JO.pur rfl rfl rfl (Pur.assign rfl) ?_
  refine JO.pur rfl rfl rfl (Pur.assign rfl) ?_
  refine JO.pur rfl rfl rfl (Pur.assign rfl) ?_
  refine JO.nil ?_
  refine J.ret rfl rfl ?_
  refine ⟨_, _, ⟨rfl, rfl⟩, rfl, fun h s => ?_⟩
  exact RA_mk (ab := ab) (cb := cb) (ao := ao) (co := co) hr (SubC.out h s)

theorem rlast_yes {L : List Asn} {p : Nat} {F : Fl} {n : Int} {i : Nat} {k : Nat} (g : Hf.Good F k) (hk : k ≤ 100000) (hx : ix F n = some i) (hme : ¬ (ch F i).marks = []) :
    CallS Try.prog 66 [.pointer (some ⟨p, 0, none⟩), .int .i64 n].toArray (RA p F :: L) (fun v M => v = .tuple #[.int .i64 (i : Int), .int .i64 (lastM (ch F i)), .int .i64 0] ∧ M = RA p (upd F i (popC (ch F i))) :: L) := by
  refine CallS.ent ?_
  refine CallS.enter Try.func66 rfl rfl rfl rfl rfl ?_
  refine J.seq rfl ?_
  refine RA_open fun ab cb ao co rs hr => ?_
  obtain ⟨hil, hch, hnum⟩ := ix_some hx
  obtain ⟨r, hrg⟩ : ∃ r, rs[i]? = some r := ⟨_, List.getElem?_eq_getElem (by omega)⟩
  have hrl := rcL_len hr
  have hrc := rcL_get hrg hch
  have gc := g.gc _ (ch_mem hx)
  have gmk := g.mks _ (ch_mem hx)
  have gb := g.b4
  have gf0 := gc.f0
  have gft := gc.ft
  have gt4 := gc.t4
  have gfa := gc.fa
  have ga4 := gc.at4
  have hmp : 0 < (ch F i).marks.length := List.length_pos_iff.2 hme
  have hl1 : (((ch F i).marks.length : Nat) : Int) - 1 = (((ch F i).marks.length - 1 : Nat) : Int) := by omega
  have hlast : (ch F i).marks[(ch F i).marks.length - 1]? = some (lastM (ch F i)) := by unfold lastM; rw [List.getD_eq_getElem?_getD, List.getElem?_eq_getElem (by omega)]; rfl
  refine J.region rfl ?_
  refine JO.pur rfl rfl rfl (Pur.assign rfl) ?_
  refine JO.pur rfl rfl rfl (Pur.assign rfl) ?_
  refine JO.pur rfl rfl rfl (Pur.assign rfl) ?_
  refine JO.nil ?_
  refine J.seq rfl ?_
  refine J.region rfl ?_
  refine JO.pur rfl rfl rfl (Pur.move rfl) ?_
  refine JO.pur rfl rfl rfl (Pur.move rfl) ?_
  refine JO.effR rfl rfl rfl (Eff.call rfl (rfind_yes hr (Nat.le_trans g.ol hk) hx)) ?_
  refine JO.pur rfl rfl rfl (Pur.assign rfl) ?_
  refine JO.nil ?_
  refine J.seq rfl ?_
  refine J.seq rfl ?_
  refine J.region rfl ?_
  refine JO.pur rfl rfl rfl (Pur.move rfl) ?_
  refine JO.pur rfl rfl rfl (Pur.lss rfl rfl) ?_
  refine JO.setv (u' := .bool false) 14 rfl (congrArg Value.bool (by simp)) ?_
  refine JO.nil ?_
  refine J.condF rfl rfl ?_
  refine J.skip rfl ?_
  refine J.seq rfl ?_
  refine J.region rfl ?_
  refine JO.pur rfl rfl rfl (Pur.move rfl) ?_
  refine JO.pur rfl rfl rfl (Pur.nilCheck rfl) ?_
  refine JO.pur rfl rfl rfl (Pur.fieldAddr rfl) ?_
  refine JO.pur rfl rfl rfl (Pur.load rfl (CellIn.blk rfl)) ?_
  refine JO.pur rfl rfl rfl (Pur.move rfl) ?_
  refine JO.pur rfl rfl rfl (Pur.idx rfl rfl rfl (by first | rfl | (simp; done) | omega) rfl (by omega)) ?_
  refine JO.pur rfl rfl rfl (Pur.fieldAddr rfl) ?_
  refine JO.pur rfl rfl rfl (Pur.load rfl (CellIn.el rfl hrc rfl)) ?_
  refine JO.setv (u' := .slice r.am (ch F i).marks.length r.cm) 22 rfl rfl ?_
  refine JO.pur rfl rfl rfl (Pur.len rfl) ?_
  refine JO.pur rfl rfl rfl (Pur.sub rfl rfl (wr64 (by omega))) ?_
  refine JO.pur rfl rfl rfl (Pur.assign rfl) ?_
  refine JO.nil ?_
  refine J.seq rfl ?_
  refine J.seq rfl ?_
  refine J.region rfl ?_
  refine JO.pur rfl rfl rfl (Pur.move rfl) ?_
  refine JO.pur rfl rfl rfl (Pur.lss rfl rfl) ?_
  refine JO.setv (u' := .bool false) 26 rfl (congrArg Value.bool (decide_eq_false (by omega))) ?_
  refine JO.nil ?_
  refine J.condF rfl rfl ?_
  refine J.skip rfl ?_
  refine J.seq rfl ?_
  refine J.imp (fun h s => rm_take (rs := rs) (cs := F.opens) (i := i) hrg hch s) ?_
  refine J.region rfl ?_
  refine JO.pur rfl rfl rfl (Pur.move rfl) ?_
  refine JO.pur rfl rfl rfl (Pur.nilCheck rfl) ?_
  refine JO.pur rfl rfl rfl (Pur.fieldAddr rfl) ?_
  refine JO.pur rfl rfl rfl (Pur.load rfl (CellIn.blk rfl)) ?_
  refine JO.pur rfl rfl rfl (Pur.move rfl) ?_
  refine JO.pur rfl rfl rfl (Pur.idx rfl rfl rfl (by first | rfl | (simp; done) | omega) rfl (by omega)) ?_
  refine JO.pur rfl rfl rfl (Pur.fieldAddr rfl) ?_
  refine JO.pur rfl rfl rfl (Pur.load rfl (CellIn.el rfl hrc rfl)) ?_
  refine JO.setv (u' := .slice r.am (ch F i).marks.length r.cm) 34 rfl rfl ?_
  refine JO.pur rfl rfl rfl (Pur.move rfl) ?_
  refine JO.pur rfl rfl rfl (Pur.idx rfl rfl rfl (by first | rfl | (simp; done) | omega) hl1 (by omega)) ?_
  refine JO.pur rfl rfl rfl (Pur.load rfl (CellIn.el0 rfl hlast rfl)) ?_
  refine JO.setv (u' := .int .i64 (lastM (ch F i))) 37 rfl rfl ?_
  refine JO.pur rfl rfl rfl (Pur.assign rfl) ?_
  refine JO.nil ?_
  refine J.seq rfl ?_
  refine J.fact (fun h s => SlH.le (a := r.am) (cap := r.cm) (E := intE) s) fun hcapm => ?_
  refine J.mask0 (n := 18) [17] rfl Try.mixed rfl (by kernel_rfl) ?_
  refine JM.take 0 (fun _ h => h) rfl (by kernel_rfl) rfl rfl rfl (m' := 1) rfl (Pur.move rfl) ?_
  refine JM.take 1 (fun _ h => h) rfl (by kernel_rfl) rfl rfl rfl (m' := 3) rfl (Pur.nilCheck rfl) ?_
  refine JM.take 2 (fun _ h => h) rfl (by kernel_rfl) rfl rfl rfl (m' := 7) rfl (Pur.fieldAddr rfl) ?_
  refine JM.take 3 (fun _ h => h) rfl (by kernel_rfl) rfl rfl rfl (m' := 15) rfl (Pur.load rfl (CellIn.blk rfl)) ?_
  refine JM.take 4 (fun _ h => h) rfl (by kernel_rfl) rfl rfl rfl (m' := 31) rfl (Pur.move rfl) ?_
  refine JM.take 5 (fun _ h => h) rfl (by kernel_rfl) rfl rfl rfl (m' := 63) rfl (Pur.move rfl) ?_
  refine JM.take 6 (fun _ h => h) rfl (by kernel_rfl) rfl rfl rfl (m' := 127) rfl (Pur.nilCheck rfl) ?_
  refine JM.take 7 (fun _ h => h) rfl (by kernel_rfl) rfl rfl rfl (m' := 255) rfl (Pur.fieldAddr rfl) ?_
  refine JM.take 8 (fun _ h => h) rfl (by kernel_rfl) rfl rfl rfl (m' := 511) rfl (Pur.load rfl (CellIn.blk rfl)) ?_
  refine JM.take 9 (fun _ h => h) rfl (by kernel_rfl) rfl rfl rfl (m' := 1023) rfl (Pur.move rfl) ?_
  refine JM.take 10 (fun _ h => h) rfl (by kernel_rfl) rfl rfl rfl (m' := 2047) rfl (Pur.idx rfl rfl rfl (by first | rfl | (simp; done) | omega) rfl (by omega)) ?_
  refine JM.take 11 (fun _ h => h) rfl (by kernel_rfl) rfl rfl rfl (m' := 4095) rfl (Pur.fieldAddr rfl) ?_
  refine JM.take 12 (fun _ h => h) rfl (by kernel_rfl) rfl rfl rfl (m' := 8191) rfl (Pur.load rfl (CellIn.el rfl hrc rfl)) ?_
  refine JM.setv (u' := .slice r.am (ch F i).marks.length r.cm) 50 rfl rfl ?_
  refine JM.take 13 (fun _ h => h) rfl (by kernel_rfl) rfl rfl rfl (m' := 16383) rfl (Pur.move rfl) ?_
  refine JM.take 14 (fun _ h => h) rfl (by kernel_rfl) rfl rfl rfl (m' := 32767) rfl (Pur.slice0 rfl rfl hl1 (by omega)) ?_
  refine JM.take 15 (fun _ h => h) rfl (by kernel_rfl) rfl rfl rfl (m' := 65535) rfl (Pur.idx rfl rfl rfl (by first | rfl | (simp; done) | omega) rfl (by omega)) ?_
  refine JM.take 16 (fun _ h => h) rfl (by kernel_rfl) rfl rfl rfl (m' := 131071) rfl (Pur.fieldAddr rfl) ?_
  refine JM.one (i := 17) (by kernel_rfl) ?_
  refine JMi.effN rfl rfl rfl (m' := 262143) rfl (Eff.storeS (z' := (⟨(ch F i).num, (ch F i).fr, (ch F i).to, (ch F i).at', (ch F i).wr, (ch F i).st, r.ap, (ch F i).pend.length, r.cp, r.am, ((ch F i).marks.length - 1), r.cm⟩ : Rc)) rfl rfl rfl rfl hrc (.tail (.tail (.tail (.tail (.tail (.tail (.tail .head)))))))) ?_
  rintro _ _ ⟨rfl, rfl⟩
  refine ⟨.inl (by simp), ?_⟩
  refine JM.done rfl ?_
  refine J.seq rfl ?_
  refine J.region rfl ?_
  refine JO.pur rfl rfl rfl (Pur.move rfl) ?_
  refine JO.pur rfl rfl rfl (Pur.move rfl) ?_
  refine JO.pur rfl rfl rfl (Pur.assign rfl) ?_
  refine JO.pur rfl rfl rfl (Pur.assign rfl) ?_
  refine JO.pur rfl rfl rfl (Pur.assign rfl) ?_
  refine JO.nil ?_
  refine J.ret rfl rfl ?_
  refine ⟨_, _, ⟨rfl, rfl⟩, rfl, fun h s => ?_⟩
  have s2 := cut_sl (a := r.am) (cap := r.cm) (E := intE) ((ch F i).marks.length - 1) s
  refine RA_shut (L := L) (p := p) (bs := F.bytes) (nx := F.next) (F := F) (c' := popC (ch F i)) (ab := ab) (cb := cb) (ao := ao) (co := co) (ap := r.ap) (cp := r.cp) (am := r.am) (cm := r.cm) hr hrg hch ?_
  simp only [rcOf]
  rw [show (popC (ch F i)).marks.length = (ch F i).marks.length - 1 by simp [popC], show (popC (ch F i)).marks = (ch F i).marks.take ((ch F i).marks.length - 1) from rfl]
  dsimp only [popC]
  exact SubC.out h s2

theorem rAccept_no {L : List Asn} {p : Nat} {F : Fl} {n : Int} {k : Nat} (g : Hf.Good F k) (hk : k ≤ 100000) (hx : ix F n = none) :
    CallS Try.prog 51 [.pointer (some ⟨p, 0, none⟩), .int .i64 n].toArray (RA p F :: L) (fun v M => v = .int .i64 (acceptF F n).2 ∧ M = RA p (acceptF F n).1 :: L) := by
  refine CallS.ent ?_
  refine CallS.enter Try.func51 rfl rfl rfl rfl rfl ?_
  refine J.seq rfl ?_
  refine J.region rfl ?_
  refine JO.pur rfl rfl rfl (Pur.assign rfl) ?_
  refine JO.nil ?_
  refine J.seq rfl ?_
  refine J.region rfl ?_
  refine JO.pur rfl rfl rfl (Pur.move rfl) ?_
  refine JO.pur rfl rfl rfl (Pur.move rfl) ?_
  refine JO.eff rfl rfl rfl (Eff.call rfl (rlast_no g hk hx)) ?_
  rintro _ _ ⟨rfl, rfl⟩
  refine JO.pur rfl rfl rfl (Pur.move rfl) ?_
  refine JO.pur rfl rfl rfl (Pur.extract rfl rfl) ?_
  refine JO.pur rfl rfl rfl (Pur.extract rfl rfl) ?_
  refine JO.pur rfl rfl rfl (Pur.extract rfl rfl) ?_
  refine JO.pur rfl rfl rfl (Pur.assign rfl) ?_
  refine JO.pur rfl rfl rfl (Pur.assign rfl) ?_
  refine JO.pur rfl rfl rfl (Pur.assign rfl) ?_
  refine JO.nil ?_
  refine J.seq rfl ?_
  refine J.region rfl ?_
  refine JO.pur rfl rfl rfl (Pur.move rfl) ?_
  refine JO.pur rfl rfl rfl (Pur.assign rfl) ?_
  refine JO.nil ?_
  refine J.ret rfl rfl ?_
  have hv : acceptF F n = (F, 5) := by unfold acceptF; rw [hx]
  refine ⟨_, _, ⟨rfl, rfl⟩, by rw [hv]; rfl, fun h s => ?_⟩
  rw [hv]; exact s

theorem rAccept_emp {L : List Asn} {p : Nat} {F : Fl} {n : Int} {i : Nat} {k : Nat} (g : Hf.Good F k) (hk : k ≤ 100000) (hx : ix F n = some i) (hme : (ch F i).marks = []) :
    CallS Try.prog 51 [.pointer (some ⟨p, 0, none⟩), .int .i64 n].toArray (RA p F :: L) (fun v M => v = .int .i64 (acceptF F n).2 ∧ M = RA p (acceptF F n).1 :: L) := by
  refine CallS.ent ?_
  refine CallS.enter Try.func51 rfl rfl rfl rfl rfl ?_
  refine J.seq rfl ?_
  refine J.region rfl ?_
  refine JO.pur rfl rfl rfl (Pur.assign rfl) ?_
  refine JO.nil ?_
  refine J.seq rfl ?_
  refine J.region rfl ?_
  refine JO.pur rfl rfl rfl (Pur.move rfl) ?_
  refine JO.pur rfl rfl rfl (Pur.move rfl) ?_
  refine JO.eff rfl rfl rfl (Eff.call rfl (rlast_emp g hk hx hme)) ?_
  rintro _ _ ⟨rfl, rfl⟩
  refine JO.pur rfl rfl rfl (Pur.move rfl) ?_
  refine JO.pur rfl rfl rfl (Pur.extract rfl rfl) ?_
  refine JO.pur rfl rfl rfl (Pur.extract rfl rfl) ?_
  refine JO.pur rfl rfl rfl (Pur.extract rfl rfl) ?_
  refine JO.pur rfl rfl rfl (Pur.assign rfl) ?_
  refine JO.pur rfl rfl rfl (Pur.assign rfl) ?_
  refine JO.pur rfl rfl rfl (Pur.assign rfl) ?_
  refine JO.nil ?_
  refine J.seq rfl ?_
  refine J.region rfl ?_
  refine JO.pur rfl rfl rfl (Pur.move rfl) ?_
  refine JO.pur rfl rfl rfl (Pur.assign rfl) ?_
  refine JO.nil ?_
  refine J.ret rfl rfl ?_
  have hv : acceptF F n = (F, 230) := by unfold acceptF; rw [hx]; dsimp only; rw [if_pos hme]
  refine ⟨_, _, ⟨rfl, rfl⟩, by rw [hv]; rfl, fun h s => ?_⟩
  rw [hv]; exact s

theorem rAccept_pop {L : List Asn} {p : Nat} {F : Fl} {n : Int} {i : Nat} {k : Nat} (g : Hf.Good F k) (hk : k ≤ 100000) (hx : ix F n = some i) (hme : ¬ (ch F i).marks = []) :
    CallS Try.prog 51 [.pointer (some ⟨p, 0, none⟩), .int .i64 n].toArray (RA p F :: L) (fun v M => v = .int .i64 (acceptF F n).2 ∧ M = RA p (acceptF F n).1 :: L) := by
  refine CallS.ent ?_
  refine CallS.enter Try.func51 rfl rfl rfl rfl rfl ?_
  refine J.seq rfl ?_
  refine J.region rfl ?_
  refine JO.pur rfl rfl rfl (Pur.assign rfl) ?_
  refine JO.nil ?_
  refine J.seq rfl ?_
  refine J.region rfl ?_
  refine JO.pur rfl rfl rfl (Pur.move rfl) ?_
  refine JO.pur rfl rfl rfl (Pur.move rfl) ?_
  refine JO.eff rfl rfl rfl (Eff.call rfl (rlast_yes g hk hx hme)) ?_
  rintro _ _ ⟨rfl, rfl⟩
  refine JO.pur rfl rfl rfl (Pur.move rfl) ?_
  refine JO.pur rfl rfl rfl (Pur.extract rfl rfl) ?_
  refine JO.pur rfl rfl rfl (Pur.extract rfl rfl) ?_
  refine JO.pur rfl rfl rfl (Pur.extract rfl rfl) ?_
  refine JO.pur rfl rfl rfl (Pur.assign rfl) ?_
  refine JO.pur rfl rfl rfl (Pur.assign rfl) ?_
  refine JO.pur rfl rfl rfl (Pur.assign rfl) ?_
  refine JO.nil ?_
  refine J.seq rfl ?_
  refine J.region rfl ?_
  refine JO.pur rfl rfl rfl (Pur.move rfl) ?_
  refine JO.pur rfl rfl rfl (Pur.assign rfl) ?_
  refine JO.nil ?_
  refine J.ret rfl rfl ?_
  have hv : acceptF F n = (upd F i (popC (ch F i)), 0) := by unfold acceptF; rw [hx]; dsimp only; rw [if_neg hme]
  refine ⟨_, _, ⟨rfl, rfl⟩, by rw [hv]; rfl, fun h s => ?_⟩
  rw [hv]; exact s

theorem rAccept_ok {L : List Asn} {p : Nat} {F : Fl} {n : Int} {k : Nat} (g : Hf.Good F k) (hk : k ≤ 100000) : CallS Try.prog 51 [.pointer (some ⟨p, 0, none⟩), .int .i64 n].toArray (RA p F :: L) (fun v M => v = .int .i64 (acceptF F n).2 ∧ M = RA p (acceptF F n).1 :: L) := by
  cases hx : ix F n with
  | none => exact rAccept_no g hk hx
  | some i =>
    by_cases hme : (ch F i).marks = []
    · exact rAccept_emp g hk hx hme
    · exact rAccept_pop g hk hx hme
theorem rRevert_no {L : List Asn} {p : Nat} {F : Fl} {n : Int} {k : Nat} (g : Hf.Good F k) (hk : k ≤ 100000) (hx : ix F n = none) :
    CallS Try.prog 50 [.pointer (some ⟨p, 0, none⟩), .int .i64 n].toArray (RA p F :: L) (fun v M => v = .int .i64 (revertF F n).2 ∧ M = RA p (revertF F n).1 :: L) := by
  refine CallS.ent ?_
  refine CallS.enter Try.func50 rfl rfl rfl rfl rfl ?_
  refine J.seq rfl ?_
  refine J.region rfl ?_
  refine JO.pur rfl rfl rfl (Pur.assign rfl) ?_
  refine JO.nil ?_
  refine J.seq rfl ?_
  refine J.region rfl ?_
  refine JO.pur rfl rfl rfl (Pur.move rfl) ?_
  refine JO.pur rfl rfl rfl (Pur.move rfl) ?_
  refine JO.eff rfl rfl rfl (Eff.call rfl (rlast_no g hk hx)) ?_
  rintro _ _ ⟨rfl, rfl⟩
  refine JO.pur rfl rfl rfl (Pur.move rfl) ?_
  refine JO.pur rfl rfl rfl (Pur.extract rfl rfl) ?_
  refine JO.pur rfl rfl rfl (Pur.extract rfl rfl) ?_
  refine JO.pur rfl rfl rfl (Pur.extract rfl rfl) ?_
  refine JO.pur rfl rfl rfl (Pur.assign rfl) ?_
  refine JO.pur rfl rfl rfl (Pur.assign rfl) ?_
  refine JO.pur rfl rfl rfl (Pur.assign rfl) ?_
  refine JO.nil ?_
  refine J.seq rfl ?_
  refine J.seq rfl ?_
  refine J.region rfl ?_
  refine JO.pur rfl rfl rfl (Pur.move rfl) ?_
  refine JO.pur rfl rfl rfl (Pur.neqI rfl rfl) ?_
  refine JO.setv (u' := .bool true) 16 rfl (congrArg Value.bool (rfl)) ?_
  refine JO.nil ?_
  refine J.condT rfl rfl ?_
  refine J.seq rfl ?_
  refine J.region rfl ?_
  refine JO.pur rfl rfl rfl (Pur.move rfl) ?_
  refine JO.pur rfl rfl rfl (Pur.assign rfl) ?_
  refine JO.nil ?_
  refine J.ret rfl rfl ?_
  have hv : revertF F n = (F, 5) := by unfold revertF; rw [hx]
  refine ⟨_, _, ⟨rfl, rfl⟩, by rw [hv]; rfl, fun h s => ?_⟩
  rw [hv]; exact s

theorem rRevert_emp {L : List Asn} {p : Nat} {F : Fl} {n : Int} {i : Nat} {k : Nat} (g : Hf.Good F k) (hk : k ≤ 100000) (hx : ix F n = some i) (hme : (ch F i).marks = []) :
    CallS Try.prog 50 [.pointer (some ⟨p, 0, none⟩), .int .i64 n].toArray (RA p F :: L) (fun v M => v = .int .i64 (revertF F n).2 ∧ M = RA p (revertF F n).1 :: L) := by
  refine CallS.ent ?_
  refine CallS.enter Try.func50 rfl rfl rfl rfl rfl ?_
  refine J.seq rfl ?_
  refine J.region rfl ?_
  refine JO.pur rfl rfl rfl (Pur.assign rfl) ?_
  refine JO.nil ?_
  refine J.seq rfl ?_
  refine J.region rfl ?_
  refine JO.pur rfl rfl rfl (Pur.move rfl) ?_
  refine JO.pur rfl rfl rfl (Pur.move rfl) ?_
  refine JO.eff rfl rfl rfl (Eff.call rfl (rlast_emp g hk hx hme)) ?_
  rintro _ _ ⟨rfl, rfl⟩
  refine JO.pur rfl rfl rfl (Pur.move rfl) ?_
  refine JO.pur rfl rfl rfl (Pur.extract rfl rfl) ?_
  refine JO.pur rfl rfl rfl (Pur.extract rfl rfl) ?_
  refine JO.pur rfl rfl rfl (Pur.extract rfl rfl) ?_
  refine JO.pur rfl rfl rfl (Pur.assign rfl) ?_
  refine JO.pur rfl rfl rfl (Pur.assign rfl) ?_
  refine JO.pur rfl rfl rfl (Pur.assign rfl) ?_
  refine JO.nil ?_
  refine J.seq rfl ?_
  refine J.seq rfl ?_
  refine J.region rfl ?_
  refine JO.pur rfl rfl rfl (Pur.move rfl) ?_
  refine JO.pur rfl rfl rfl (Pur.neqI rfl rfl) ?_
  refine JO.setv (u' := .bool true) 16 rfl (congrArg Value.bool (rfl)) ?_
  refine JO.nil ?_
  refine J.condT rfl rfl ?_
  refine J.seq rfl ?_
  refine J.region rfl ?_
  refine JO.pur rfl rfl rfl (Pur.move rfl) ?_
  refine JO.pur rfl rfl rfl (Pur.assign rfl) ?_
  refine JO.nil ?_
  refine J.ret rfl rfl ?_
  have hv : revertF F n = (F, 230) := by unfold revertF; rw [hx]; dsimp only; rw [if_pos hme]
  refine ⟨_, _, ⟨rfl, rfl⟩, by rw [hv]; rfl, fun h s => ?_⟩
  rw [hv]; exact s

theorem rRevert_pop {L : List Asn} {p : Nat} {F : Fl} {n : Int} {i : Nat} {k : Nat} (g : Hf.Good F k) (hk : k ≤ 100000) (hx : ix F n = some i) (hme : ¬ (ch F i).marks = []) :
    CallS Try.prog 50 [.pointer (some ⟨p, 0, none⟩), .int .i64 n].toArray (RA p F :: L) (fun v M => v = .int .i64 (revertF F n).2 ∧ M = RA p (revertF F n).1 :: L) := by
  refine CallS.ent ?_
  refine CallS.enter Try.func50 rfl rfl rfl rfl rfl ?_
  refine J.seq rfl ?_
  refine J.region rfl ?_
  refine JO.pur rfl rfl rfl (Pur.assign rfl) ?_
  refine JO.nil ?_
  refine J.seq rfl ?_
  refine J.region rfl ?_
  refine JO.pur rfl rfl rfl (Pur.move rfl) ?_
  refine JO.pur rfl rfl rfl (Pur.move rfl) ?_
  refine JO.eff rfl rfl rfl (Eff.call rfl (rlast_yes g hk hx hme)) ?_
  rintro _ _ ⟨rfl, rfl⟩
  refine JO.pur rfl rfl rfl (Pur.move rfl) ?_
  refine JO.pur rfl rfl rfl (Pur.extract rfl rfl) ?_
  refine JO.pur rfl rfl rfl (Pur.extract rfl rfl) ?_
  refine JO.setv (u' := .int .i64 (lastM (ch F i))) 13 rfl rfl ?_
  refine JO.pur rfl rfl rfl (Pur.extract rfl rfl) ?_
  refine JO.pur rfl rfl rfl (Pur.assign rfl) ?_
  refine JO.pur rfl rfl rfl (Pur.assign rfl) ?_
  refine JO.pur rfl rfl rfl (Pur.assign rfl) ?_
  refine JO.nil ?_
  refine J.seq rfl ?_
  refine J.seq rfl ?_
  refine J.region rfl ?_
  refine JO.pur rfl rfl rfl (Pur.move rfl) ?_
  refine JO.pur rfl rfl rfl (Pur.neqI rfl rfl) ?_
  refine JO.setv (u' := .bool false) 16 rfl (congrArg Value.bool (rfl)) ?_
  refine JO.nil ?_
  refine J.condF rfl rfl ?_
  refine J.skip rfl ?_
  refine J.seq rfl ?_
  obtain ⟨hil, hch, hnum⟩ := ix_some hx
  have gc := g.gc _ (ch_mem hx)
  have hl1 := gc.m1 _ (last_in hme)
  have ga4 := gc.at4
  have gt4 := gc.t4
  have gf0 := gc.f0
  have gol := g.ol
  obtain ⟨F2, hF2⟩ : ∃ F2, F2 = upd F i (popC (ch F i)) := ⟨_, rfl⟩
  rw [← hF2]
  have hc2 : ch F2 i = popC (ch F i) := by rw [hF2]; exact ch_upd hil
  have hil2 : i < F2.opens.length := by rw [hF2]; simpa [upd] using hil
  have hch2 : F2.opens[i]? = some (ch F2 i) := ch_get hil2
  refine RA_open fun ab cb ao co rs hr => ?_
  obtain ⟨r, hrg⟩ : ∃ r, rs[i]? = some r := ⟨_, List.getElem?_eq_getElem (by omega)⟩
  have hrl := rcL_len hr
  have hrc := rcL_get hrg hch2
  refine J.imp (fun h s => rm_take (rs := rs) (cs := F2.opens) (i := i) hrg hch2 s) ?_
  have hwe : (ch F2 i).wr = (ch F i).wr := by rw [hc2]; rfl
  have hse : (ch F2 i).st = (ch F i).st := by rw [hc2]; rfl
  have hpe : (ch F2 i).pend = (ch F i).pend := by rw [hc2]; rfl
  refine J.region rfl ?_
  refine JO.pur rfl rfl rfl (Pur.move rfl) ?_
  refine JO.pur rfl rfl rfl (Pur.nilCheck rfl) ?_
  refine JO.pur rfl rfl rfl (Pur.fieldAddr rfl) ?_
  refine JO.pur rfl rfl rfl (Pur.load rfl (CellIn.blk rfl)) ?_
  refine JO.pur rfl rfl rfl (Pur.move rfl) ?_
  refine JO.pur rfl rfl rfl (Pur.move rfl) ?_
  refine JO.pur rfl rfl rfl (Pur.idx rfl rfl rfl (by first | rfl | (simp; done) | omega | (rw [List.length_set, hrl])) rfl (by omega)) ?_
  refine JO.pur rfl rfl rfl (Pur.fieldAddr rfl) ?_
  refine JO.effN rfl rfl (Eff.storeS (E := rcE) (a := ao) (z := rcOf r (ch F2 i)) (z' := (⟨(ch F2 i).num, (ch F2 i).fr, (ch F2 i).to, (lastM (ch F i)), (ch F2 i).wr, (ch F2 i).st, r.ap, (ch F2 i).pend.length, r.cp, r.am, (ch F2 i).marks.length, r.cm⟩ : Rc)) rfl rfl rfl rfl hrc (.tail (.tail (.tail .head)))) ?_
  rintro _ _ ⟨rfl, rfl⟩
  refine JO.nil ?_
  refine J.seq rfl ?_
  refine J.seq rfl ?_
  refine J.region rfl ?_
  refine JO.pur rfl rfl rfl (Pur.move rfl) ?_
  refine JO.pur rfl rfl rfl (Pur.nilCheck rfl) ?_
  refine JO.pur rfl rfl rfl (Pur.fieldAddr rfl) ?_
  refine JO.pur rfl rfl rfl (Pur.load rfl (CellIn.blk rfl)) ?_
  refine JO.pur rfl rfl rfl (Pur.move rfl) ?_
  refine JO.pur rfl rfl rfl (Pur.idx rfl rfl rfl (by first | rfl | (simp; done) | omega | (rw [List.length_set, hrl])) rfl (by rw [List.length_set, hrl]; omega)) ?_
  refine JO.pur rfl rfl rfl (Pur.fieldAddr rfl) ?_
  refine JO.pur rfl rfl rfl (Pur.load rfl (CellIn.el rfl (by exact List.getElem?_set_self (by rw [hrl]; omega)) rfl)) ?_
  refine JO.setv (u' := .bool (ch F2 i).wr) 33 rfl rfl ?_
  refine JO.nil ?_
  refine J.splitB 33 rfl (fun h33 => ?_) (fun h33 => ?_)
  · try simp only [decide_eq_true_eq, decide_eq_false_iff_not, Bool.not_eq_true', Bool.not_eq_false', Bool.and_eq_true, Bool.or_eq_true, Bool.and_eq_false_iff, Bool.or_eq_false_iff, Option.isNone_some, Option.isSome_some, Option.isNone_none, Option.isSome_none, Int.not_lt, Int.not_le, beq_iff_eq, beq_eq_false_iff_ne, bne_iff_ne, ne_eq, Bool.not_not, Decidable.not_not] at h33
    have hw : (ch F i).wr = true := by rw [← hwe]; exact h33
    have hms := gc.m2 hw _ (last_in hme)
    have hw1 := gc.w1 hw
    have hcut : lastM (ch F i) - (ch F2 i).st = ((lastM (ch F i) - (ch F2 i).st).toNat : Int) := (Int.toNat_of_nonneg (by omega)).symm
    have hpl : ((ch F2 i).pend.take (lastM (ch F i) - (ch F2 i).st).toNat).length = (lastM (ch F i) - (ch F2 i).st).toNat := by rw [List.length_take, hpe]; omega
    refine J.fact (fun h s => SlH.le (a := r.ap) (cap := r.cp) (E := byE) s) fun hcapp => ?_
    refine J.condT rfl rfl ?_
    refine J.mask0 (n := 27) [26] rfl Try.mixed rfl (by kernel_rfl) ?_
    refine JM.take 0 (fun _ h => h) rfl (by kernel_rfl) rfl rfl rfl (m' := 1) rfl (Pur.move rfl) ?_
    refine JM.take 1 (fun _ h => h) rfl (by kernel_rfl) rfl rfl rfl (m' := 3) rfl (Pur.nilCheck rfl) ?_
    refine JM.take 2 (fun _ h => h) rfl (by kernel_rfl) rfl rfl rfl (m' := 7) rfl (Pur.fieldAddr rfl) ?_
    refine JM.take 3 (fun _ h => h) rfl (by kernel_rfl) rfl rfl rfl (m' := 15) rfl (Pur.load rfl (CellIn.blk rfl)) ?_
    refine JM.take 4 (fun _ h => h) rfl (by kernel_rfl) rfl rfl rfl (m' := 31) rfl (Pur.move rfl) ?_
    refine JM.take 5 (fun _ h => h) rfl (by kernel_rfl) rfl rfl rfl (m' := 63) rfl (Pur.move rfl) ?_
    refine JM.take 6 (fun _ h => h) rfl (by kernel_rfl) rfl rfl rfl (m' := 127) rfl (Pur.nilCheck rfl) ?_
    refine JM.take 7 (fun _ h => h) rfl (by kernel_rfl) rfl rfl rfl (m' := 255) rfl (Pur.fieldAddr rfl) ?_
    refine JM.take 8 (fun _ h => h) rfl (by kernel_rfl) rfl rfl rfl (m' := 511) rfl (Pur.load rfl (CellIn.blk rfl)) ?_
    refine JM.take 9 (fun _ h => h) rfl (by kernel_rfl) rfl rfl rfl (m' := 1023) rfl (Pur.move rfl) ?_
    refine JM.take 10 (fun _ h => h) rfl (by kernel_rfl) rfl rfl rfl (m' := 2047) rfl (Pur.idx rfl rfl rfl (by first | rfl | (simp; done) | omega | (rw [List.length_set, hrl])) rfl (by rw [List.length_set, hrl]; omega)) ?_
    refine JM.take 11 (fun _ h => h) rfl (by kernel_rfl) rfl rfl rfl (m' := 4095) rfl (Pur.fieldAddr rfl) ?_
    refine JM.take 12 (fun _ h => h) rfl (by kernel_rfl) rfl rfl rfl (m' := 8191) rfl (Pur.load rfl (CellIn.el rfl (by exact List.getElem?_set_self (by rw [hrl]; omega)) rfl)) ?_
    refine JM.setv (u' := .slice r.ap (ch F2 i).pend.length r.cp) 46 rfl rfl ?_
    refine JM.take 13 (fun _ h => h) rfl (by kernel_rfl) rfl rfl rfl (m' := 16383) rfl (Pur.move rfl) ?_
    refine JM.take 14 (fun _ h => h) rfl (by kernel_rfl) rfl rfl rfl (m' := 32767) rfl (Pur.move rfl) ?_
    refine JM.take 15 (fun _ h => h) rfl (by kernel_rfl) rfl rfl rfl (m' := 65535) rfl (Pur.nilCheck rfl) ?_
    refine JM.take 16 (fun _ h => h) rfl (by kernel_rfl) rfl rfl rfl (m' := 131071) rfl (Pur.fieldAddr rfl) ?_
    refine JM.take 17 (fun _ h => h) rfl (by kernel_rfl) rfl rfl rfl (m' := 262143) rfl (Pur.load rfl (CellIn.blk rfl)) ?_
    refine JM.take 18 (fun _ h => h) rfl (by kernel_rfl) rfl rfl rfl (m' := 524287) rfl (Pur.move rfl) ?_
    refine JM.take 19 (fun _ h => h) rfl (by kernel_rfl) rfl rfl rfl (m' := 1048575) rfl (Pur.idx rfl rfl rfl (by first | rfl | (simp; done) | omega | (rw [List.length_set, hrl])) rfl (by rw [List.length_set, hrl]; omega)) ?_
    refine JM.take 20 (fun _ h => h) rfl (by kernel_rfl) rfl rfl rfl (m' := 2097151) rfl (Pur.fieldAddr rfl) ?_
    refine JM.take 21 (fun _ h => h) rfl (by kernel_rfl) rfl rfl rfl (m' := 4194303) rfl (Pur.load rfl (CellIn.el rfl (by exact List.getElem?_set_self (by rw [hrl]; omega)) rfl)) ?_
    refine JM.setv (u' := .int .i64 (ch F2 i).st) 55 rfl rfl ?_
    refine JM.take 22 (fun _ h => h) rfl (by kernel_rfl) rfl rfl rfl (m' := 8388607) rfl (Pur.sub rfl rfl (wr64 (by omega))) ?_
    refine JM.take 23 (fun _ h => h) rfl (by kernel_rfl) rfl rfl rfl (m' := 16777215) rfl (Pur.slice0 rfl rfl hcut (by rw [hpe] at hcapp; omega)) ?_
    refine JM.take 24 (fun _ h => h) rfl (by kernel_rfl) rfl rfl rfl (m' := 33554431) rfl (Pur.idx rfl rfl rfl (by first | rfl | (simp; done) | omega | (rw [List.length_set, hrl])) rfl (by rw [List.length_set, hrl]; omega)) ?_
    refine JM.take 25 (fun _ h => h) rfl (by kernel_rfl) rfl rfl rfl (m' := 67108863) rfl (Pur.fieldAddr rfl) ?_
    refine JM.one (i := 26) (by kernel_rfl) ?_
    refine JMi.effN rfl rfl rfl (m' := 134217727) rfl (Eff.storeS (E := rcE) (a := ao) (z := (⟨(ch F2 i).num, (ch F2 i).fr, (ch F2 i).to, (lastM (ch F i)), (ch F2 i).wr, (ch F2 i).st, r.ap, (ch F2 i).pend.length, r.cp, r.am, (ch F2 i).marks.length, r.cm⟩ : Rc)) (z' := (⟨(ch F2 i).num, (ch F2 i).fr, (ch F2 i).to, (lastM (ch F i)), (ch F2 i).wr, (ch F2 i).st, r.ap, (lastM (ch F i) - (ch F2 i).st).toNat, r.cp, r.am, (ch F2 i).marks.length, r.cm⟩ : Rc)) rfl rfl rfl rfl (by exact List.getElem?_set_self (by rw [hrl]; omega)) (.tail (.tail (.tail (.tail (.tail (.tail .head))))))) ?_
    rintro _ _ ⟨rfl, rfl⟩
    refine ⟨.inl (by simp), ?_⟩
    refine JM.done rfl ?_
    refine J.seq rfl ?_
    refine J.region rfl ?_
    refine JO.pur rfl rfl rfl (Pur.assign rfl) ?_
    refine JO.nil ?_
    refine J.ret rfl rfl ?_
    have hv : revertF F n = (upd F i (revC (ch F i)), 0) := by unfold revertF; rw [hx]; dsimp only; rw [if_neg hme]
    refine ⟨_, _, ⟨rfl, rfl⟩, by rw [hv]; rfl, fun h s => ?_⟩
    have hrv : upd F i (revC (ch F i)) = ⟨F2.bytes, F2.next, F2.opens.set i { ch F2 i with at' := lastM (ch F i), pend := (ch F2 i).pend.take (lastM (ch F i) - (ch F2 i).st).toNat }⟩ := by rw [hF2, ← hF2, hc2, hF2]; unfold revC; rw [if_pos hw]; simp only [upd, List.set_set] <;> rfl
    rw [hv, hrv]
    refine RA_shut (L := L) (p := p) (bs := F2.bytes) (nx := F2.next) (F := F2) (c' := { ch F2 i with at' := lastM (ch F i), pend := (ch F2 i).pend.take (lastM (ch F i) - (ch F2 i).st).toNat }) (ab := ab) (cb := cb) (ao := ao) (co := co) (ap := r.ap) (cp := r.cp) (am := r.am) (cm := r.cm) hr hrg hch2 ?_
    simp only [rcOf, hpl]
    have s2 := cut_sl (a := r.ap) (cap := r.cp) (E := byE) (lastM (ch F i) - (ch F2 i).st).toNat s
    simp only [List.set_set] at s2
    exact SubC.out h s2
  · try simp only [decide_eq_true_eq, decide_eq_false_iff_not, Bool.not_eq_true', Bool.not_eq_false', Bool.and_eq_true, Bool.or_eq_true, Bool.and_eq_false_iff, Bool.or_eq_false_iff, Option.isNone_some, Option.isSome_some, Option.isNone_none, Option.isSome_none, Int.not_lt, Int.not_le, beq_iff_eq, beq_eq_false_iff_ne, bne_iff_ne, ne_eq, Bool.not_not, Decidable.not_not] at h33
    have hw : ¬ (ch F i).wr = true := by rw [← hwe]; simpa using h33
    refine J.condF rfl rfl ?_
    refine J.skip rfl ?_
    refine J.seq rfl ?_
    refine J.region rfl ?_
    refine JO.pur rfl rfl rfl (Pur.assign rfl) ?_
    refine JO.nil ?_
    refine J.ret rfl rfl ?_
    have hv : revertF F n = (upd F i (revC (ch F i)), 0) := by unfold revertF; rw [hx]; dsimp only; rw [if_neg hme]
    refine ⟨_, _, ⟨rfl, rfl⟩, by rw [hv]; rfl, fun h s => ?_⟩
    have hrv : upd F i (revC (ch F i)) = ⟨F2.bytes, F2.next, F2.opens.set i { ch F2 i with at' := lastM (ch F i) }⟩ := by rw [hF2, ← hF2, hc2, hF2]; unfold revC; rw [if_neg hw]; simp only [upd, List.set_set] <;> rfl
    rw [hv, hrv]
    refine RA_shut (L := L) (p := p) (bs := F2.bytes) (nx := F2.next) (F := F2) (c' := { ch F2 i with at' := lastM (ch F i) }) (ab := ab) (cb := cb) (ao := ao) (co := co) (ap := r.ap) (cp := r.cp) (am := r.am) (cm := r.cm) hr hrg hch2 ?_
    simp only [rcOf]
    exact SubC.out h s

theorem rRevert_ok {L : List Asn} {p : Nat} {F : Fl} {n : Int} {k : Nat} (g : Hf.Good F k) (hk : k ≤ 100000) : CallS Try.prog 50 [.pointer (some ⟨p, 0, none⟩), .int .i64 n].toArray (RA p F :: L) (fun v M => v = .int .i64 (revertF F n).2 ∧ M = RA p (revertF F n).1 :: L) := by
  cases hx : ix F n with
  | none => exact rRevert_no g hk hx
  | some i =>
    by_cases hme : (ch F i).marks = []
    · exact rRevert_emp g hk hx hme
    · exact rRevert_pop g hk hx hme
end Go.Proofs.Ytgbckamaenapeaa

/- The text HPut. -/
/-! The document's way to put what was written into a file: byte by byte. No program in sight. -/
set_option linter.unusedVariables false
set_option linter.unusedSimpArgs false
namespace Go.Proofs.Ytgbckamaenapeaa
open Go Go.KK Hf
theorem pad_get {xs : List UInt8} {n j : Nat} : (padTo xs n)[j]? = if j < xs.length then xs[j]? else if j < n then some 0 else none := by
  unfold padTo
  rw [List.getElem?_append]
  split
  · rfl
  · rw [List.getElem?_replicate]
    by_cases h : j < n
    · rw [if_pos (by omega), if_pos h]
    · rw [if_neg (by omega), if_neg h]
def pbk (bs : List UInt8) (c : Ch) (k : Nat) : List UInt8 := if k = 0 then bs else spl (padTo bs (c.st.toNat + k)) c.st.toNat (c.pend.take k)
theorem pbk_len {bs : List UInt8} {c : Ch} {k : Nat} (hk : k ≤ c.pend.length) : (pbk bs c k).length = if k = 0 then bs.length else max bs.length (c.st.toNat + k) := by
  unfold pbk
  split
  · rfl
  · have hl := pad_len bs (c.st.toNat + k)
    rw [spl_len (by rw [List.length_take]; omega), hl]
theorem pbk_get {bs : List UInt8} {c : Ch} {k : Nat} (hk : k ≤ c.pend.length) (j : Nat) : (pbk bs c k)[j]? = if c.st.toNat ≤ j ∧ j < c.st.toNat + k then c.pend[j - c.st.toNat]? else if j < bs.length then bs[j]? else if 0 < k ∧ j < c.st.toNat + k then some 0 else none := by
  unfold pbk
  by_cases h0 : k = 0
  · rw [if_pos h0, if_neg (by omega)]
    by_cases hj : j < bs.length
    · rw [if_pos hj]
    · rw [if_neg hj, if_neg (by omega), List.getElem?_eq_none (by omega)]
  · have hl := pad_len bs (c.st.toNat + k)
    have ht : (c.pend.take k).length = k := by rw [List.length_take]; omega
    rw [if_neg h0, spl_get (by omega), ht, pad_get, List.getElem?_take]
    repeat' split
    all_goals first | rfl | (exfalso; omega)
theorem pbk_step {bs : List UInt8} {c : Ch} {k : Nat} {y : UInt8} (hk : k < c.pend.length) (hy : c.pend[k]? = some y) : (padTo (pbk bs c k) (c.st.toNat + k + 1)).set (c.st.toNat + k) y = pbk bs c (k + 1) := by
  have hl := pbk_len (bs := bs) (c := c) (k := k) (by omega)
  have hpl := pad_len (pbk bs c k) (c.st.toNat + k + 1)
  apply List.ext_getElem?
  intro j
  rw [List.getElem?_set, pbk_get (by omega)]
  by_cases he : c.st.toNat + k = j
  · rw [if_pos he, if_pos (show c.st.toNat + k < _ by omega), if_pos (show c.st.toNat ≤ j ∧ j < c.st.toNat + (k + 1) by omega), show j - c.st.toNat = k by omega, hy]
  · rw [if_neg he, pad_get, pbk_get (by omega)]
    rcases Nat.eq_zero_or_pos k with h0 | h0
    · rw [if_pos h0] at hl
      repeat' split
      all_goals first | rfl | (exfalso; omega)
    · rw [if_neg (by omega)] at hl
      repeat' split
      all_goals first | rfl | (exfalso; omega)
theorem pbk_all {bs : List UInt8} {c : Ch} : pbk bs c c.pend.length = putB bs c := by
  unfold pbk putB
  by_cases h : c.pend = []
  · rw [if_pos h, if_pos (by rw [h]; rfl)]
  · rw [if_neg h, if_neg (fun e => h (List.eq_nil_of_length_eq_zero e)), List.take_length]
theorem pad_more {xs : List UInt8} {n : Nat} (h : xs.length ≤ n) : padTo xs n ++ [0] = padTo xs (n + 1) := by
  unfold padTo
  rw [List.append_assoc, show n + 1 - xs.length = n - xs.length + 1 by omega, List.replicate_succ']
theorem pad_no {xs : List UInt8} {n : Nat} (h : n ≤ xs.length) : padTo xs n = xs := by
  unfold padTo; rw [show n - xs.length = 0 by omega]; simp
theorem putF_eq {F : Fl} {i : Nat} (gc : GoodC (ch F i)) (hw : (ch F i).wr = true) : putF F i = ⟨putB F.bytes (ch F i), F.next, F.opens.set i { ch F i with pend := [], st := (ch F i).at' }⟩ := by
  unfold putF putC
  split
  · rename_i hp
    have h1 := (gc.w1 hw).2
    rw [hp] at h1
    congr 2
    cases hc : ch F i with
    | mk a b c d e f g h => rw [hc] at hp h1; simp only at hp h1 ⊢; simp [hp]; simpa using h1.symm
  · rfl
end Go.Proofs.Ytgbckamaenapeaa

/- The text HRf4. -/
set_option linter.unusedVariables false
set_option linter.unusedSimpArgs false
set_option maxRecDepth 10000
namespace Go.Proofs.Ytgbckamaenapeaa
open Go Go.KK Hf

theorem rput_ok {L : List Asn} {p : Nat} {F : Fl} {i : Nat} {k : Nat} (g : Hf.Good F k) (hk : k ≤ 100000) (hil : i < F.opens.length) (hw : (ch F i).wr = true) :
    CallS Try.prog 67 [.pointer (some ⟨p, 0, none⟩), .int .i64 (i : Int)].toArray (RA p F :: L) (fun v M => v = .tuple #[] ∧ M = RA p (putF F i) :: L) := by
  refine CallS.ent ?_
  refine CallS.enter Try.func67 rfl rfl rfl rfl rfl ?_
  refine J.seq rfl ?_
  refine RA_open fun ab cb ao co rs hr => ?_
  obtain ⟨r, hrg⟩ : ∃ r, rs[i]? = some r := ⟨_, List.getElem?_eq_getElem (by omega)⟩
  have hrl := rcL_len hr
  have hch := ch_get hil
  have hrc := rcL_get hrg hch
  have gc := g.gc _ (List.mem_of_getElem? hch)
  have gmk := g.mks _ (List.mem_of_getElem? hch)
  have gb := g.b4
  have gw := gc.w1 hw
  have gf0 := gc.f0
  have gt4 := gc.t4
  have ga4 := gc.at4
  refine J.imp (fun h s => rm_take (rs := rs) (cs := F.opens) (i := i) hrg hch s) ?_
  refine J.region rfl ?_
  refine JO.pur rfl rfl rfl (Pur.move rfl) ?_
  refine JO.pur rfl rfl rfl (Pur.nilCheck rfl) ?_
  refine JO.pur rfl rfl rfl (Pur.fieldAddr rfl) ?_
  refine JO.pur rfl rfl rfl (Pur.load rfl (CellIn.blk rfl)) ?_
  refine JO.pur rfl rfl rfl (Pur.move rfl) ?_
  refine JO.pur rfl rfl rfl (Pur.idx rfl rfl rfl (by first | rfl | (simp; done) | omega | (rw [List.length_set, hrl])) rfl (by omega)) ?_
  refine JO.pur rfl rfl rfl (Pur.loadA rfl rfl rfl (CellsIn.el rfl hrc)) ?_
  refine JO.eff rfl rfl rfl (Eff.alloc (cs := [_, _, _, _, _, _, _, _]) rfl) ?_
  rintro _ _ ⟨b4, rfl, rfl⟩
  refine JO.effN rfl rfl (Eff.storeBA (cs' := [_, _, _, _, _, _, _, _]) rfl rfl (by rfl) (by rfl) (by rfl)) ?_
  rintro _ _ ⟨rfl, rfl⟩
  refine JO.nil ?_
  refine J.seq rfl ?_
  refine J.seq rfl ?_
  refine J.region rfl ?_
  refine JO.pur rfl rfl rfl (Pur.assign rfl) ?_
  refine JO.nil ?_
  refine J.block rfl ?_
  refine J.loopF (ι := Nat × Option Addr × Nat) (fun q => q.1 ≤ (ch F i).pend.length) (fun q => [(5, .int .i64 (q.1 : Int))]) [(0, _), (1, _), (4, _)] (fun q => blk p (.cells #[.slice q.2.1 (pbk F.bytes (ch F i) q.1).length q.2.2, .slice ao F.opens.length co, .int .i64 F.next] 93) :: sl byE q.2.1 q.2.2 (pbk F.bytes (ch F i) q.1) :: blk b4 (.cells #[.int .i64 (ch F i).num, .int .i64 (ch F i).fr, .int .i64 (ch F i).to, .int .i64 (ch F i).at', .bool (ch F i).wr, .int .i64 (ch F i).st, .slice r.ap (ch F i).pend.length r.cp, .slice r.am (ch F i).marks.length r.cm] 96) :: sl rcE ao co (rcL rs F.opens) :: sl byE r.ap r.cp (ch F i).pend :: sl intE r.am r.cm (ch F i).marks :: star ((rmL rs F.opens).eraseIdx i) :: L) (fun q => (ch F i).pend.length - q.1) (0, ab, cb) rfl (.cons rfl rfl (.cons rfl rfl (.cons rfl rfl .nil))) (.cons rfl rfl .nil) (fun h s => by dsimp only [rcOf] at s ⊢; rw [show pbk F.bytes (ch F i) 0 = F.bytes from rfl]; exact SubC.out h s) (Nat.zero_le _) ?_
  rintro ⟨k2, ab1, cb1⟩ hk2 ih0
  try dsimp only
  dsimp only at hk2
  refine J.seq rfl ?_
  refine J.seq rfl ?_
  refine J.region rfl ?_
  refine JO.pur rfl rfl rfl (Pur.move rfl) ?_
  refine JO.pur rfl rfl rfl (Pur.fieldAddr rfl) ?_
  refine JO.pur rfl rfl rfl (Pur.load rfl (CellIn.blk rfl)) ?_
  refine JO.pur rfl rfl rfl (Pur.len rfl) ?_
  refine JO.pur rfl rfl rfl (Pur.lss rfl rfl) ?_
  refine JO.nil ?_
  refine J.splitB 17 rfl (fun h17 => ?_) (fun h17 => ?_)
  · try simp only [decide_eq_true_eq, decide_eq_false_iff_not, Bool.not_eq_true', Bool.not_eq_false', Bool.and_eq_true, Bool.or_eq_true, Bool.and_eq_false_iff, Bool.or_eq_false_iff, Option.isNone_some, Option.isSome_some, Option.isNone_none, Option.isSome_none, Int.not_lt, Int.not_le, beq_iff_eq, beq_eq_false_iff_ne, bne_iff_ne, ne_eq, Bool.not_not, Decidable.not_not] at h17
    have hkp : k2 < (ch F i).pend.length := by omega
    have hy := List.getElem?_eq_getElem hkp
    have hpl := pbk_len (bs := F.bytes) (c := ch F i) (k := k2) (by omega)
    have hpl4 : (pbk F.bytes (ch F i) k2).length ≤ 400 := by rw [hpl]; split <;> omega
    refine J.condT rfl rfl ?_
    refine J.skip rfl ?_
    refine J.seq rfl ?_
    refine J.block rfl ?_
    refine J.seq rfl ?_
    refine J.block rfl ?_
    refine J.loopF (ι := Nat × Option Addr × Nat) (fun q => (pbk F.bytes (ch F i) k2).length ≤ q.1 ∧ q.1 ≤ max (pbk F.bytes (ch F i) k2).length ((ch F i).st.toNat + k2 + 1)) (fun q => []) [(0, _), (1, _), (4, _), (5, _)] (fun q => blk p (.cells #[.slice q.2.1 (padTo (pbk F.bytes (ch F i) k2) q.1).length q.2.2, .slice ao F.opens.length co, .int .i64 F.next] 93) :: sl byE q.2.1 q.2.2 (padTo (pbk F.bytes (ch F i) k2) q.1) :: blk b4 (.cells #[.int .i64 (ch F i).num, .int .i64 (ch F i).fr, .int .i64 (ch F i).to, .int .i64 (ch F i).at', .bool (ch F i).wr, .int .i64 (ch F i).st, .slice r.ap (ch F i).pend.length r.cp, .slice r.am (ch F i).marks.length r.cm] 96) :: sl rcE ao co (rcL rs F.opens) :: sl byE r.ap r.cp (ch F i).pend :: sl intE r.am r.cm (ch F i).marks :: star ((rmL rs F.opens).eraseIdx i) :: L) (fun q => 401 - q.1) ((pbk F.bytes (ch F i) k2).length, ab1, cb1) rfl (.cons rfl rfl (.cons rfl rfl (.cons rfl rfl (.cons rfl rfl .nil)))) .nil (fun h s => by dsimp only; rw [pad_no (Nat.le_refl _)]; exact SubC.out h s) ⟨Nat.le_refl _, Nat.le_max_left _ _⟩ ?_
    rintro ⟨j2, ab2, cb2⟩ ⟨hj1, hj2⟩ ih1
    try dsimp only
    dsimp only at hj1 hj2
    have hjl := pad_len (pbk F.bytes (ch F i) k2) j2
    refine J.seq rfl ?_
    refine J.seq rfl ?_
    refine J.quiet rfl Try.mixed (by kernel_rfl) ?_
    refine JQ.pur rfl rfl rfl (Pur.move rfl) ?_
    refine JQ.pur rfl rfl rfl (Pur.nilCheck rfl) ?_
    refine JQ.pur rfl rfl rfl (Pur.fieldAddr rfl) ?_
    refine JQ.pur rfl rfl rfl (Pur.load rfl (CellIn.blk rfl)) ?_
    refine JQ.pur rfl rfl rfl (Pur.len rfl) ?_
    refine JQ.pur rfl rfl rfl (Pur.fieldAddr rfl) ?_
    refine JQ.pur rfl rfl rfl (Pur.load rfl (CellIn.blk rfl)) ?_
    refine JQ.setv (u' := .int .i64 (ch F i).st) 26 rfl rfl ?_
    refine JQ.pur rfl rfl rfl (Pur.move rfl) ?_
    refine JQ.pur rfl rfl rfl (Pur.add rfl rfl (wr64 (by omega))) ?_
    refine JQ.pur rfl rfl rfl (Pur.leq rfl rfl) ?_
    refine JQ.nil ?_
    refine J.splitB 29 rfl (fun h29 => ?_) (fun h29 => ?_)
    · try simp only [decide_eq_true_eq, decide_eq_false_iff_not, Bool.not_eq_true', Bool.not_eq_false', Bool.and_eq_true, Bool.or_eq_true, Bool.and_eq_false_iff, Bool.or_eq_false_iff, Option.isNone_some, Option.isSome_some, Option.isNone_none, Option.isSome_none, Int.not_lt, Int.not_le, beq_iff_eq, beq_eq_false_iff_ne, bne_iff_ne, ne_eq, Bool.not_not, Decidable.not_not] at h29
      refine J.condT rfl rfl ?_
      refine J.skip rfl ?_
      refine J.block rfl ?_
      refine J.region rfl ?_
      refine JO.pur rfl rfl rfl (Pur.move rfl) ?_
      refine JO.pur rfl rfl rfl (Pur.move rfl) ?_
      refine JO.pur rfl rfl rfl (Pur.nilCheck rfl) ?_
      refine JO.pur rfl rfl rfl (Pur.fieldAddr rfl) ?_
      refine JO.pur rfl rfl rfl (Pur.load rfl (CellIn.blk rfl)) ?_
      refine JO.eff rfl rfl rfl (Eff.buildSlice byE [0] rfl rfl rfl rfl rfl rfl rfl) ?_
      rintro _ _ ⟨b35, rfl, -, rfl⟩
      refine JO.eff rfl rfl rfl (Eff.append rfl rfl rfl rfl (by first | rfl | omega | (simp; done) | (simp; omega)) (by first | rfl | omega | (simp; done) | (simp; omega)) (by decide) (by simp; omega) (by simp; omega) (fun h => by cases h)) ?_
      rintro _ _ ⟨a36, c36, rfl, rfl⟩
      refine JO.pur rfl rfl rfl (Pur.nilCheck rfl) ?_
      refine JO.pur rfl rfl rfl (Pur.fieldAddr rfl) ?_
      refine JO.effN rfl rfl (Eff.storeB rfl rfl rfl .head) ?_
      rintro _ _ ⟨rfl, rfl⟩
      refine JO.nil ?_
      refine J.inBlock ?_
      exact J.weaken (.cons rfl rfl (.cons rfl rfl (.cons rfl rfl (.cons rfl rfl .nil)))) (fun h s => by dsimp only; rw [← pad_more (by omega)]; simp only [List.length_append]; exact SubC.out h s) (ih1 (j2 + 1, a36, c36) ⟨(by dsimp only; omega), (by dsimp only; omega)⟩ (by dsimp only; omega))
    · try simp only [decide_eq_true_eq, decide_eq_false_iff_not, Bool.not_eq_true', Bool.not_eq_false', Bool.and_eq_true, Bool.or_eq_true, Bool.and_eq_false_iff, Bool.or_eq_false_iff, Option.isNone_some, Option.isSome_some, Option.isNone_none, Option.isSome_none, Int.not_lt, Int.not_le, beq_iff_eq, beq_eq_false_iff_ne, bne_iff_ne, ne_eq, Bool.not_not, Decidable.not_not] at h29
      obtain rfl : j2 = max (pbk F.bytes (ch F i) k2).length ((ch F i).st.toNat + k2 + 1) := by omega
      have hpe : padTo (pbk F.bytes (ch F i) k2) (max (pbk F.bytes (ch F i) k2).length ((ch F i).st.toNat + k2 + 1)) = padTo (pbk F.bytes (ch F i) k2) ((ch F i).st.toNat + k2 + 1) := by
       rcases Nat.le_total (pbk F.bytes (ch F i) k2).length ((ch F i).st.toNat + k2 + 1) with h | h
       · rw [Nat.max_eq_right h]
       · rw [Nat.max_eq_left h, pad_no h, pad_no (Nat.le_refl _)]
      rw [hpe] at hjl ⊢
      refine J.condF rfl rfl ?_
      refine J.exit rfl rfl ?_
      refine J.mask0 (n := 15) [14] rfl Try.mixed rfl (by kernel_rfl) ?_
      refine JM.take 0 (fun _ h => h) rfl (by kernel_rfl) rfl rfl rfl (m' := 1) rfl (Pur.move rfl) ?_
      refine JM.take 1 (fun _ h => h) rfl (by kernel_rfl) rfl rfl rfl (m' := 3) rfl (Pur.nilCheck rfl) ?_
      refine JM.take 2 (fun _ h => h) rfl (by kernel_rfl) rfl rfl rfl (m' := 7) rfl (Pur.fieldAddr rfl) ?_
      refine JM.take 3 (fun _ h => h) rfl (by kernel_rfl) rfl rfl rfl (m' := 15) rfl (Pur.load rfl (CellIn.blk rfl)) ?_
      refine JM.take 4 (fun _ h => h) rfl (by kernel_rfl) rfl rfl rfl (m' := 31) rfl (Pur.fieldAddr rfl) ?_
      refine JM.take 5 (fun _ h => h) rfl (by kernel_rfl) rfl rfl rfl (m' := 63) rfl (Pur.load rfl (CellIn.blk rfl)) ?_
      refine JM.setv (u' := .int .i64 (ch F i).st) 44 rfl rfl ?_
      refine JM.take 6 (fun _ h => h) rfl (by kernel_rfl) rfl rfl rfl (m' := 127) rfl (Pur.move rfl) ?_
      refine JM.take 7 (fun _ h => h) rfl (by kernel_rfl) rfl rfl rfl (m' := 255) rfl (Pur.add rfl rfl (wr64 (by omega))) ?_
      refine JM.take 8 (fun _ h => h) rfl (by kernel_rfl) rfl rfl rfl (m' := 511) rfl (Pur.fieldAddr rfl) ?_
      refine JM.take 9 (fun _ h => h) rfl (by kernel_rfl) rfl rfl rfl (m' := 1023) rfl (Pur.load rfl (CellIn.blk rfl)) ?_
      refine JM.take 10 (fun _ h => h) rfl (by kernel_rfl) rfl rfl rfl (m' := 2047) rfl (Pur.move rfl) ?_
      refine JM.take 11 (fun _ h => h) rfl (by kernel_rfl) rfl rfl rfl (m' := 4095) rfl (Pur.idx rfl rfl rfl (by first | rfl | (simp; done) | omega | (rw [List.length_set, hrl])) rfl hkp) ?_
      refine JM.take 12 (fun _ h => h) rfl (by kernel_rfl) rfl rfl rfl (m' := 8191) rfl (Pur.load rfl (CellIn.el0 rfl hy rfl)) ?_
      refine JM.take 13 (fun _ h => h) rfl (by kernel_rfl) rfl rfl rfl (m' := 16383) rfl (Pur.idx rfl rfl rfl (by first | rfl | (simp; done) | omega | (rw [List.length_set, hrl])) (show (ch F i).st + (k2 : Int) = (((ch F i).st.toNat + k2 : Nat) : Int) by omega) (by omega)) ?_
      refine JM.one (i := 14) (by kernel_rfl) ?_
      refine JMi.effN rfl rfl rfl (m' := 32767) rfl (Eff.storeS0 (z' := ((ch F i).pend[k2])) rfl rfl rfl rfl (List.getElem?_eq_getElem (by omega)) .head) ?_
      rintro _ _ ⟨rfl, rfl⟩
      refine ⟨.inl (by simp), ?_⟩
      refine JM.done rfl ?_
      refine J.inBlock ?_
      refine J.region rfl ?_
      refine JO.pur rfl rfl rfl (Pur.move rfl) ?_
      refine JO.pur rfl rfl rfl (Pur.add rfl rfl (wr64 (by omega))) ?_
      refine JO.pur rfl rfl rfl (Pur.assign rfl) ?_
      refine JO.nil ?_
      exact J.weaken (.cons rfl (congrArg (Value.int .i64) (by first | rfl | (dsimp only; omega))) (.cons rfl rfl (.cons rfl rfl (.cons rfl rfl .nil)))) (fun h s => by dsimp only; rw [← pbk_step hkp hy]; try rw [List.length_set]; exact SubC.out h s) (ih0 (k2 + 1, ab2, cb2) (by dsimp only; omega) (by dsimp only; omega))
  · try simp only [decide_eq_true_eq, decide_eq_false_iff_not, Bool.not_eq_true', Bool.not_eq_false', Bool.and_eq_true, Bool.or_eq_true, Bool.and_eq_false_iff, Bool.or_eq_false_iff, Option.isNone_some, Option.isSome_some, Option.isNone_none, Option.isSome_none, Int.not_lt, Int.not_le, beq_iff_eq, beq_eq_false_iff_ne, bne_iff_ne, ne_eq, Bool.not_not, Decidable.not_not] at h17
    refine J.condF rfl rfl ?_
    refine J.exit rfl rfl ?_
    obtain rfl : k2 = (ch F i).pend.length := by omega
    refine J.pullC (A := sl rcE ao co (rcL rs F.opens)) inferInstance ?_
    refine J.mask1 (n := 18) [] rfl Try.mixed rfl (by kernel_rfl) ?_
    refine JM.take 0 (fun _ h => h.tail) rfl (by kernel_rfl) rfl rfl rfl (m' := 1) rfl (Pur.move rfl) ?_
    refine JM.take 1 (fun _ h => h.tail) rfl (by kernel_rfl) rfl rfl rfl (m' := 3) rfl (Pur.nilCheck rfl) ?_
    refine JM.take 2 (fun _ h => h.tail) rfl (by kernel_rfl) rfl rfl rfl (m' := 7) rfl (Pur.fieldAddr rfl) ?_
    refine JM.take 3 (fun _ h => h.tail) rfl (by kernel_rfl) rfl rfl rfl (m' := 15) rfl (Pur.load rfl (CellIn.blk rfl)) ?_
    refine JM.take 4 (fun _ h => h.tail) rfl (by kernel_rfl) rfl rfl rfl (m' := 31) rfl (Pur.move rfl) ?_
    refine JM.take 5 (fun _ h => h.tail) rfl (by kernel_rfl) rfl rfl rfl (m' := 63) rfl (Pur.move rfl) ?_
    refine JM.take 6 (fun _ h => h.tail) rfl (by kernel_rfl) rfl rfl rfl (m' := 127) rfl (Pur.nilCheck rfl) ?_
    refine JM.take 7 (fun _ h => h.tail) rfl (by kernel_rfl) rfl rfl rfl (m' := 255) rfl (Pur.fieldAddr rfl) ?_
    refine JM.take 8 (fun _ h => h.tail) rfl (by kernel_rfl) rfl rfl rfl (m' := 511) rfl (Pur.load rfl (CellIn.blk rfl)) ?_
    refine JM.take 9 (fun _ h => h.tail) rfl (by kernel_rfl) rfl rfl rfl (m' := 1023) rfl (Pur.move rfl) ?_
    refine JM.take 10 (fun _ h => h.tail) rfl (by kernel_rfl) rfl rfl rfl (m' := 2047) rfl (Pur.fieldAddr rfl) ?_
    refine JM.take 11 (fun _ h => h.tail) rfl (by kernel_rfl) rfl rfl rfl (m' := 4095) rfl (Pur.load rfl (CellIn.blk rfl)) ?_
    refine JM.setv (u' := .int .i64 (ch F i).at') 64 rfl rfl ?_
    refine JM.one (i := 12) (by kernel_rfl) ?_
    refine JMi.eff rfl rfl rfl rfl (m' := 8191) rfl (Pur.eff (Pur.idx rfl rfl rfl (by first | rfl | (simp; done) | omega | (rw [List.length_set, hrl])) rfl (by omega))) ?_
    rintro _ _ ⟨rfl, rfl⟩
    refine ⟨.inr (fun _ h => h.tail), ?_⟩
    refine JM.take 13 (fun _ h => h.tail) rfl (by kernel_rfl) rfl rfl rfl (m' := 16383) rfl (Pur.fieldAddr rfl) ?_
    refine JM.one (i := 14) (by kernel_rfl) ?_
    refine JMi.effN rfl rfl rfl (m' := 32767) rfl (Eff.storeS (E := rcE) (a := ao) (z := rcOf r (ch F i)) (z' := (⟨(ch F i).num, (ch F i).fr, (ch F i).to, (ch F i).at', (ch F i).wr, (ch F i).st, none, 0, 0, r.am, (ch F i).marks.length, r.cm⟩ : Rc)) rfl rfl rfl rfl hrc (.tail (.tail (.tail (.tail (.tail (.tail .head))))))) ?_
    rintro _ _ ⟨rfl, rfl⟩
    refine ⟨.inr (fun _ h => h.tail), ?_⟩
    refine JM.one (i := 15) (by kernel_rfl) ?_
    refine JMi.eff rfl rfl rfl rfl (m' := 65535) rfl (Pur.eff (Pur.idx rfl rfl rfl (by first | rfl | (simp; done) | omega | (rw [List.length_set, hrl])) rfl (by rw [List.length_set, hrl]; omega))) ?_
    rintro _ _ ⟨rfl, rfl⟩
    refine ⟨.inr (fun _ h => h.tail), ?_⟩
    refine JM.take 16 (fun _ h => h.tail) rfl (by kernel_rfl) rfl rfl rfl (m' := 131071) rfl (Pur.fieldAddr rfl) ?_
    refine JM.one (i := 17) (by kernel_rfl) ?_
    refine JMi.effN rfl rfl rfl (m' := 262143) rfl (Eff.storeS (E := rcE) (a := ao) (z := (⟨(ch F i).num, (ch F i).fr, (ch F i).to, (ch F i).at', (ch F i).wr, (ch F i).st, none, 0, 0, r.am, (ch F i).marks.length, r.cm⟩ : Rc)) (z' := (⟨(ch F i).num, (ch F i).fr, (ch F i).to, (ch F i).at', (ch F i).wr, (ch F i).at', none, 0, 0, r.am, (ch F i).marks.length, r.cm⟩ : Rc)) rfl rfl rfl rfl (by exact List.getElem?_set_self (by rw [hrl]; omega)) (.tail (.tail (.tail (.tail (.tail .head)))))) ?_
    rintro _ _ ⟨rfl, rfl⟩
    refine ⟨.inr (fun _ h => h.tail), ?_⟩
    refine JM.done rfl ?_
    refine J.fin rfl ?_
    refine ⟨_, _, ⟨rfl, rfl⟩, rfl, fun h s => ?_⟩
    rw [putF_eq gc hw, ← pbk_all]
    have s2 := sl_nil_new (E := byE) s
    refine RA_shut (L := L) (p := p) (bs := pbk F.bytes (ch F i) (ch F i).pend.length) (nx := F.next) (F := F) (c' := { ch F i with pend := [], st := (ch F i).at' }) (ab := ab1) (cb := cb1) (ao := ao) (co := co) (ap := none) (cp := 0) (am := r.am) (cm := r.cm) hr hrg hch ?_
    simp only [rcOf, List.length_nil]
    simp only [List.set_set] at s2
    exact SubC.out h s2

end Go.Proofs.Ytgbckamaenapeaa
