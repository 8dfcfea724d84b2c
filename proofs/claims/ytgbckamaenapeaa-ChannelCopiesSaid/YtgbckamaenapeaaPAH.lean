/-
  A part of the proof of the claim that this folder bears.
-/
import Derived.Test.YtgbckamaenapeaaPAG
import Derived.Test.YtgbckamaenapeaaPAF
/- The text HRf3. -/
set_option linter.unusedVariables false
set_option linter.unusedSimpArgs false
set_option maxRecDepth 10000
namespace Go.Proofs.Ytgbckamaenapeaa
open Go Go.KK Hf

theorem ix_upd {F : Fl} {n : Int} {i : Nat} {c : Ch} (h : ix F n = some i) (hn : c.num = (ch F i).num) : ix (upd F i c) n = some i := by
  obtain ⟨h1, h2, h3⟩ := ix_some h
  have e : ∀ l : List Ch, l.findIdx? (fun c => decide (n = c.num)) = (l.map (·.num)).findIdx? (fun m => decide (n = m)) := fun l => by rw [List.findIdx?_map]; rfl
  unfold ix at h ⊢
  rw [e] at h ⊢
  rw [show (upd F i c).opens = F.opens.set i c from rfl, set_nums h2 hn]; exact h
theorem ch_upd {F : Fl} {i : Nat} {c : Ch} (h : i < F.opens.length) : ch (upd F i c) i = c := by
  unfold ch upd; rw [List.getD_eq_getElem?_getD, List.getElem?_set_self h]; rfl
theorem rec_eta (r : Cr) : (⟨r.b, r.ap, r.cp, r.am, r.cm⟩ : Cr) = r := rfl
theorem rlast_no {L : List Asn} {p : Nat} {F : Fl} {n : Int} {k : Nat} (g : Hf.Good F k) (hk : k ≤ 100000) (hx : ix F n = none) :
    CallS Try.prog 66 [.pointer (some ⟨p, 0, none⟩), .int .i64 n].toArray (RA p F :: L) (fun v M => v = .tuple #[.int .i64 0, .int .i64 0, .int .i64 5] ∧ M = RA p F :: L) := by
  refine CallS.ent ?_
  refine CallS.enter Try.func66 rfl rfl rfl rfl rfl ?_
  refine J.seq rfl ?_
  refine RA_open fun ab cb ao co rs hr => ?_
  refine J.region rfl ?_
  refine JO.pur rfl rfl rfl (Pur.assign rfl) ?_
  refine JO.pur rfl rfl rfl (Pur.assign rfl) ?_
  refine JO.pur rfl rfl rfl (Pur.assign rfl) ?_
  refine JO.nil ?_
  refine J.seq rfl ?_
  refine J.region rfl ?_
  refine JO.pur rfl rfl rfl (Pur.move rfl) ?_
  refine JO.pur rfl rfl rfl (Pur.move rfl) ?_
  refine JO.effR rfl rfl rfl (Eff.call rfl (rfind_no hr (Nat.le_trans g.ol hk) hx)) ?_
  refine JO.pur rfl rfl rfl (Pur.assign rfl) ?_
  refine JO.nil ?_
  refine J.seq rfl ?_
  refine J.seq rfl ?_
  refine J.region rfl ?_
  refine JO.pur rfl rfl rfl (Pur.move rfl) ?_
  refine JO.pur rfl rfl rfl (Pur.lss rfl rfl) ?_
  refine JO.setv (u' := .bool true) 14 rfl (congrArg Value.bool (rfl)) ?_
  refine JO.nil ?_
  refine J.condT rfl rfl ?_
  refine J.seq rfl ?_
  refine J.region rfl ?_
  refine JO.pur rfl rfl rfl (Pur.assign rfl) ?_
  refine JO.pur rfl rfl rfl (Pur.assign rfl) ?_
  refine JO.pur rfl rfl rfl (Pur.assign rfl) ?_
  refine JO.nil ?_
  refine J.ret rfl rfl ?_
  refine ⟨_, _, ⟨rfl, rfl⟩, rfl, fun h s => ?_⟩
  exact RA_mk (ab := ab) (cb := cb) (ao := ao) (co := co) hr (SubC.out h s)

theorem rlast_emp {L : List Asn} {p : Nat} {F : Fl} {n : Int} {i : Nat} {k : Nat} (g : Hf.Good F k) (hk : k ≤ 100000) (hx : ix F n = some i) (hme : (ch F i).marks = []) :
    CallS Try.prog 66 [.pointer (some ⟨p, 0, none⟩), .int .i64 n].toArray (RA p F :: L) (fun v M => v = .tuple #[.int .i64 0, .int .i64 0, .int .i64 230] ∧ M = RA p F :: L) := by
  refine CallS.ent ?_
  refine CallS.enter Try.func66 rfl rfl rfl rfl rfl ?_
  refine J.seq rfl ?_
  refine RA_open fun ab cb ao co rs hr => ?_
  obtain ⟨hil, hch, hnum⟩ := ix_some hx
  obtain ⟨r, hrg⟩ : ∃ r, rs[i]? = some r := ⟨_, List.getElem?_eq_getElem (by omega)⟩
  have hrl := rcL_len hr
  have hrc := rcL_get hrg hch
  have gc := g.gc _ (ch_mem hx)
  have gmk := g.mks _ (ch_mem hx)
  have gb := g.b4
  have gf0 := gc.f0
  have gft := gc.ft
  have gt4 := gc.t4
  have gfa := gc.fa
  have ga4 := gc.at4
  refine J.region rfl ?_
  refine JO.pur rfl rfl rfl (Pur.assign rfl) ?_
  refine JO.pur rfl rfl rfl (Pur.assign rfl) ?_
  refine JO.pur rfl rfl rfl (Pur.assign rfl) ?_
  refine JO.nil ?_
  refine J.seq rfl ?_
  refine J.region rfl ?_
  refine JO.pur rfl rfl rfl (Pur.move rfl) ?_
  refine JO.pur rfl rfl rfl (Pur.move rfl) ?_
  refine JO.effR rfl rfl rfl (Eff.call rfl (rfind_yes hr (Nat.le_trans g.ol hk) hx)) ?_
  refine JO.pur rfl rfl rfl (Pur.assign rfl) ?_
  refine JO.nil ?_
  refine J.seq rfl ?_
  refine J.seq rfl ?_
  refine J.region rfl ?_
  refine JO.pur rfl rfl rfl (Pur.move rfl) ?_
  refine JO.pur rfl rfl rfl (Pur.lss rfl rfl) ?_
  refine JO.setv (u' := .bool false) 14 rfl (congrArg Value.bool (by simp)) ?_
  refine JO.nil ?_
  refine J.condF rfl rfl ?_
  refine J.skip rfl ?_
  refine J.seq rfl ?_
  refine J.region rfl ?_
  refine JO.pur rfl rfl rfl (Pur.move rfl) ?_
  refine JO.pur rfl rfl rfl (Pur.nilCheck rfl) ?_
  refine JO.pur rfl rfl rfl (Pur.fieldAddr rfl) ?_
  refine JO.pur rfl rfl rfl (Pur.load rfl (CellIn.blk rfl)) ?_
  refine JO.pur rfl rfl rfl (Pur.move rfl) ?_
  refine JO.pur rfl rfl rfl (Pur.idx rfl rfl rfl (by first | rfl | (simp; done) | omega) rfl (by omega)) ?_
  refine JO.pur rfl rfl rfl (Pur.fieldAddr rfl) ?_
  refine JO.pur rfl rfl rfl (Pur.load rfl (CellIn.el rfl hrc rfl)) ?_
  refine JO.setv (u' := .slice r.am (ch F i).marks.length r.cm) 22 rfl rfl ?_
  refine JO.pur rfl rfl rfl (Pur.len rfl) ?_
  refine JO.pur rfl rfl rfl (Pur.sub rfl rfl (wr64 (by omega))) ?_
  refine JO.pur rfl rfl rfl (Pur.assign rfl) ?_
  refine JO.nil ?_
  refine J.seq rfl ?_
  refine J.seq rfl ?_
  refine J.region rfl ?_
  refine JO.pur rfl rfl rfl (Pur.move rfl) ?_
  refine JO.pur rfl rfl rfl (Pur.lss rfl rfl) ?_
  refine JO.setv (u' := .bool true) 26 rfl (congrArg Value.bool (by rw [hme]; rfl)) ?_
  refine JO.nil ?_
  refine J.condT rfl rfl ?_
  refine J.seq rfl ?_
  refine J.region rfl ?_
  refine JO.pur rfl rfl rfl (Pur.assign rfl) ?_
  refine JO.pur rfl rfl rfl (Pur.assign rfl) ?_
  refine JO.pur rfl rfl rfl (Pur.assign rfl) ?_
  refine JO.nil ?_
  refine J.ret rfl rfl ?_
  refine ⟨_, _, ⟨rfl, rfl⟩, rfl, fun h s => ?_⟩
  exact RA_mk (ab := ab) (cb := cb) (ao := ao) (co := co) hr (SubC.out h s)

theorem rlast_yes {L : List Asn} {p : Nat} {F : Fl} {n : Int} {i : Nat} {k : Nat} (g : Hf.Good F k) (hk : k ≤ 100000) (hx : ix F n = some i) (hme : ¬ (ch F i).marks = []) :
    CallS Try.prog 66 [.pointer (some ⟨p, 0, none⟩), .int .i64 n].toArray (RA p F :: L) (fun v M => v = .tuple #[.int .i64 (i : Int), .int .i64 (lastM (ch F i)), .int .i64 0] ∧ M = RA p (upd F i (popC (ch F i))) :: L) := by
  refine CallS.ent ?_
  refine CallS.enter Try.func66 rfl rfl rfl rfl rfl ?_
  refine J.seq rfl ?_
  refine RA_open fun ab cb ao co rs hr => ?_
  obtain ⟨hil, hch, hnum⟩ := ix_some hx
  obtain ⟨r, hrg⟩ : ∃ r, rs[i]? = some r := ⟨_, List.getElem?_eq_getElem (by omega)⟩
  have hrl := rcL_len hr
  have hrc := rcL_get hrg hch
  have gc := g.gc _ (ch_mem hx)
  have gmk := g.mks _ (ch_mem hx)
  have gb := g.b4
  have gf0 := gc.f0
  have gft := gc.ft
  have gt4 := gc.t4
  have gfa := gc.fa
  have ga4 := gc.at4
  have hmp : 0 < (ch F i).marks.length := List.length_pos_iff.2 hme
  have hl1 : (((ch F i).marks.length : Nat) : Int) - 1 = (((ch F i).marks.length - 1 : Nat) : Int) := by omega
  have hlast : (ch F i).marks[(ch F i).marks.length - 1]? = some (lastM (ch F i)) := by unfold lastM; rw [List.getD_eq_getElem?_getD, List.getElem?_eq_getElem (by omega)]; rfl
  refine J.region rfl ?_
  refine JO.pur rfl rfl rfl (Pur.assign rfl) ?_
  refine JO.pur rfl rfl rfl (Pur.assign rfl) ?_
  refine JO.pur rfl rfl rfl (Pur.assign rfl) ?_
  refine JO.nil ?_
  refine J.seq rfl ?_
  refine J.region rfl ?_
  refine JO.pur rfl rfl rfl (Pur.move rfl) ?_
  refine JO.pur rfl rfl rfl (Pur.move rfl) ?_
  refine JO.effR rfl rfl rfl (Eff.call rfl (rfind_yes hr (Nat.le_trans g.ol hk) hx)) ?_
  refine JO.pur rfl rfl rfl (Pur.assign rfl) ?_
  refine JO.nil ?_
  refine J.seq rfl ?_
  refine J.seq rfl ?_
  refine J.region rfl ?_
  refine JO.pur rfl rfl rfl (Pur.move rfl) ?_
  refine JO.pur rfl rfl rfl (Pur.lss rfl rfl) ?_
  refine JO.setv (u' := .bool false) 14 rfl (congrArg Value.bool (by simp)) ?_
  refine JO.nil ?_
  refine J.condF rfl rfl ?_
  refine J.skip rfl ?_
  refine J.seq rfl ?_
  refine J.region rfl ?_
  refine JO.pur rfl rfl rfl (Pur.move rfl) ?_
  refine JO.pur rfl rfl rfl (Pur.nilCheck rfl) ?_
  refine JO.pur rfl rfl rfl (Pur.fieldAddr rfl) ?_
  refine JO.pur rfl rfl rfl (Pur.load rfl (CellIn.blk rfl)) ?_
  refine JO.pur rfl rfl rfl (Pur.move rfl) ?_
  refine JO.pur rfl rfl rfl (Pur.idx rfl rfl rfl (by first | rfl | (simp; done) | omega) rfl (by omega)) ?_
  refine JO.pur rfl rfl rfl (Pur.fieldAddr rfl) ?_
  refine JO.pur rfl rfl rfl (Pur.load rfl (CellIn.el rfl hrc rfl)) ?_
  refine JO.setv (u' := .slice r.am (ch F i).marks.length r.cm) 22 rfl rfl ?_
  refine JO.pur rfl rfl rfl (Pur.len rfl) ?_
  refine JO.pur rfl rfl rfl (Pur.sub rfl rfl (wr64 (by omega))) ?_
  refine JO.pur rfl rfl rfl (Pur.assign rfl) ?_
  refine JO.nil ?_
  refine J.seq rfl ?_
  refine J.seq rfl ?_
  refine J.region rfl ?_
  refine JO.pur rfl rfl rfl (Pur.move rfl) ?_
  refine JO.pur rfl rfl rfl (Pur.lss rfl rfl) ?_
  refine JO.setv (u' := .bool false) 26 rfl (congrArg Value.bool (decide_eq_false (by omega))) ?_
  refine JO.nil ?_
  refine J.condF rfl rfl ?_
  refine J.skip rfl ?_
  refine J.seq rfl ?_
  refine J.imp (fun h s => rm_take (rs := rs) (cs := F.opens) (i := i) hrg hch s) ?_
  refine J.region rfl ?_
  refine JO.pur rfl rfl rfl (Pur.move rfl) ?_
  refine JO.pur rfl rfl rfl (Pur.nilCheck rfl) ?_
  refine JO.pur rfl rfl rfl (Pur.fieldAddr rfl) ?_
  refine JO.pur rfl rfl rfl (Pur.load rfl (CellIn.blk rfl)) ?_
  refine JO.pur rfl rfl rfl (Pur.move rfl) ?_
  refine JO.pur rfl rfl rfl (Pur.idx rfl rfl rfl (by first | rfl | (simp; done) | omega) rfl (by omega)) ?_
  refine JO.pur rfl rfl rfl (Pur.fieldAddr rfl) ?_
  refine JO.pur rfl rfl rfl (Pur.load rfl (CellIn.el rfl hrc rfl)) ?_
  refine JO.setv (u' := .slice r.am (ch F i).marks.length r.cm) 34 rfl rfl ?_
  refine JO.pur rfl rfl rfl (Pur.move rfl) ?_
  refine JO.pur rfl rfl rfl (Pur.idx rfl rfl rfl (by first | rfl | (simp; done) | omega) hl1 (by omega)) ?_
  refine JO.pur rfl rfl rfl (Pur.load rfl (CellIn.el0 rfl hlast rfl)) ?_
  refine JO.setv (u' := .int .i64 (lastM (ch F i))) 37 rfl rfl ?_
  refine JO.pur rfl rfl rfl (Pur.assign rfl) ?_
  refine JO.nil ?_
  refine J.seq rfl ?_
  refine J.fact (fun h s => SlH.le (a := r.am) (cap := r.cm) (E := intE) s) fun hcapm => ?_
  refine J.mask0 (n := 18) [17] rfl Try.mixed rfl (by kernel_rfl) ?_
  refine JM.take 0 (fun _ h => h) rfl (by kernel_rfl) rfl rfl rfl (m' := 1) rfl (Pur.move rfl) ?_
  refine JM.take 1 (fun _ h => h) rfl (by kernel_rfl) rfl rfl rfl (m' := 3) rfl (Pur.nilCheck rfl) ?_
  refine JM.take 2 (fun _ h => h) rfl (by kernel_rfl) rfl rfl rfl (m' := 7) rfl (Pur.fieldAddr rfl) ?_
  refine JM.take 3 (fun _ h => h) rfl (by kernel_rfl) rfl rfl rfl (m' := 15) rfl (Pur.load rfl (CellIn.blk rfl)) ?_
  refine JM.take 4 (fun _ h => h) rfl (by kernel_rfl) rfl rfl rfl (m' := 31) rfl (Pur.move rfl) ?_
  refine JM.take 5 (fun _ h => h) rfl (by kernel_rfl) rfl rfl rfl (m' := 63) rfl (Pur.move rfl) ?_
  refine JM.take 6 (fun _ h => h) rfl (by kernel_rfl) rfl rfl rfl (m' := 127) rfl (Pur.nilCheck rfl) ?_
  refine JM.take 7 (fun _ h => h) rfl (by kernel_rfl) rfl rfl rfl (m' := 255) rfl (Pur.fieldAddr rfl) ?_
  refine JM.take 8 (fun _ h => h) rfl (by kernel_rfl) rfl rfl rfl (m' := 511) rfl (Pur.load rfl (CellIn.blk rfl)) ?_
  refine JM.take 9 (fun _ h => h) rfl (by kernel_rfl) rfl rfl rfl (m' := 1023) rfl (Pur.move rfl) ?_
  refine JM.take 10 (fun _ h => h) rfl (by kernel_rfl) rfl rfl rfl (m' := 2047) rfl (Pur.idx rfl rfl rfl (by first | rfl | (simp; done) | omega) rfl (by omega)) ?_
  refine JM.take 11 (fun _ h => h) rfl (by kernel_rfl) rfl rfl rfl (m' := 4095) rfl (Pur.fieldAddr rfl) ?_
  refine JM.take 12 (fun _ h => h) rfl (by kernel_rfl) rfl rfl rfl (m' := 8191) rfl (Pur.load rfl (CellIn.el rfl hrc rfl)) ?_
  refine JM.setv (u' := .slice r.am (ch F i).marks.length r.cm) 50 rfl rfl ?_
  refine JM.take 13 (fun _ h => h) rfl (by kernel_rfl) rfl rfl rfl (m' := 16383) rfl (Pur.move rfl) ?_
  refine JM.take 14 (fun _ h => h) rfl (by kernel_rfl) rfl rfl rfl (m' := 32767) rfl (Pur.slice0 rfl rfl hl1 (by omega)) ?_
  refine JM.take 15 (fun _ h => h) rfl (by kernel_rfl) rfl rfl rfl (m' := 65535) rfl (Pur.idx rfl rfl rfl (by first | rfl | (simp; done) | omega) rfl (by omega)) ?_
  refine JM.take 16 (fun _ h => h) rfl (by kernel_rfl) rfl rfl rfl (m' := 131071) rfl (Pur.fieldAddr rfl) ?_
  refine JM.one (i := 17) (by kernel_rfl) ?_
  refine JMi.effN rfl rfl rfl (m' := 262143) rfl (Eff.storeS (z' := (⟨(ch F i).num, (ch F i).fr, (ch F i).to, (ch F i).at', (ch F i).wr, (ch F i).st, r.ap, (ch F i).pend.length, r.cp, r.am, ((ch F i).marks.length - 1), r.cm⟩ : Rc)) rfl rfl rfl rfl hrc (.tail (.tail (.tail (.tail (.tail (.tail (.tail .head)))))))) ?_
  rintro _ _ ⟨rfl, rfl⟩
  refine ⟨.inl (by simp), ?_⟩
  refine JM.done rfl ?_
  refine J.seq rfl ?_
  refine J.region rfl ?_
  refine JO.pur rfl rfl rfl (Pur.move rfl) ?_
  refine JO.pur rfl rfl rfl (Pur.move rfl) ?_
  refine JO.pur rfl rfl rfl (Pur.assign rfl) ?_
  refine JO.pur rfl rfl rfl (Pur.assign rfl) ?_
  refine JO.pur rfl rfl rfl (Pur.assign rfl) ?_
  refine JO.nil ?_
  refine J.ret rfl rfl ?_
  refine ⟨_, _, ⟨rfl, rfl⟩, rfl, fun h s => ?_⟩
  have s2 := cut_sl (a := r.am) (cap := r.cm) (E := intE) ((ch F i).marks.length - 1) s
  refine RA_shut (L := L) (p := p) (bs := F.bytes) (nx := F.next) (F := F) (c' := popC (ch F i)) (ab := ab) (cb := cb) (ao := ao) (co := co) (ap := r.ap) (cp := r.cp) (am := r.am) (cm := r.cm) hr hrg hch ?_
  simp only [rcOf]
  rw [show (popC (ch F i)).marks.length = (ch F i).marks.length - 1 by simp [popC], show (popC (ch F i)).marks = (ch F i).marks.take ((ch F i).marks.length - 1) from rfl]
  dsimp only [popC]
  exact SubC.out h s2

theorem rAccept_no {L : List Asn} {p : Nat} {F : Fl} {n : Int} {k : Nat} (g : Hf.Good F k) (hk : k ≤ 100000) (hx : ix F n = none) :
    CallS Try.prog 51 [.pointer (some ⟨p, 0, none⟩), .int .i64 n].toArray (RA p F :: L) (fun v M => v = .int .i64 (acceptF F n).2 ∧ M = RA p (acceptF F n).1 :: L) := by
  refine CallS.ent ?_
  refine CallS.enter Try.func51 rfl rfl rfl rfl rfl ?_
  refine J.seq rfl ?_
  refine J.region rfl ?_
  refine JO.pur rfl rfl rfl (Pur.assign rfl) ?_
  refine JO.nil ?_
  refine J.seq rfl ?_
  refine J.region rfl ?_
  refine JO.pur rfl rfl rfl (Pur.move rfl) ?_
  refine JO.pur rfl rfl rfl (Pur.move rfl) ?_
  refine JO.eff rfl rfl rfl (Eff.call rfl (rlast_no g hk hx)) ?_
  rintro _ _ ⟨rfl, rfl⟩
  refine JO.pur rfl rfl rfl (Pur.move rfl) ?_
  refine JO.pur rfl rfl rfl (Pur.extract rfl rfl) ?_
  refine JO.pur rfl rfl rfl (Pur.extract rfl rfl) ?_
  refine JO.pur rfl rfl rfl (Pur.extract rfl rfl) ?_
  refine JO.pur rfl rfl rfl (Pur.assign rfl) ?_
  refine JO.pur rfl rfl rfl (Pur.assign rfl) ?_
  refine JO.pur rfl rfl rfl (Pur.assign rfl) ?_
  refine JO.nil ?_
  refine J.seq rfl ?_
  refine J.region rfl ?_
  refine JO.pur rfl rfl rfl (Pur.move rfl) ?_
  refine JO.pur rfl rfl rfl (Pur.assign rfl) ?_
  refine JO.nil ?_
  refine J.ret rfl rfl ?_
  have hv : acceptF F n = (F, 5) := by unfold acceptF; rw [hx]
  refine ⟨_, _, ⟨rfl, rfl⟩, by rw [hv]; rfl, fun h s => ?_⟩
  rw [hv]; exact s

theorem rAccept_emp {L : List Asn} {p : Nat} {F : Fl} {n : Int} {i : Nat} {k : Nat} (g : Hf.Good F k) (hk : k ≤ 100000) (hx : ix F n = some i) (hme : (ch F i).marks = []) :
    CallS Try.prog 51 [.pointer (some ⟨p, 0, none⟩), .int .i64 n].toArray (RA p F :: L) (fun v M => v = .int .i64 (acceptF F n).2 ∧ M = RA p (acceptF F n).1 :: L) := by
  refine CallS.ent ?_
  refine CallS.enter Try.func51 rfl rfl rfl rfl rfl ?_
  refine J.seq rfl ?_
  refine J.region rfl ?_
  refine JO.pur rfl rfl rfl (Pur.assign rfl) ?_
  refine JO.nil ?_
  refine J.seq rfl ?_
  refine J.region rfl ?_
  refine JO.pur rfl rfl rfl (Pur.move rfl) ?_
  refine JO.pur rfl rfl rfl (Pur.move rfl) ?_
  refine JO.eff rfl rfl rfl (Eff.call rfl (rlast_emp g hk hx hme)) ?_
  rintro _ _ ⟨rfl, rfl⟩
  refine JO.pur rfl rfl rfl (Pur.move rfl) ?_
  refine JO.pur rfl rfl rfl (Pur.extract rfl rfl) ?_
  refine JO.pur rfl rfl rfl (Pur.extract rfl rfl) ?_
  refine JO.pur rfl rfl rfl (Pur.extract rfl rfl) ?_
  refine JO.pur rfl rfl rfl (Pur.assign rfl) ?_
  refine JO.pur rfl rfl rfl (Pur.assign rfl) ?_
  refine JO.pur rfl rfl rfl (Pur.assign rfl) ?_
  refine JO.nil ?_
  refine J.seq rfl ?_
  refine J.region rfl ?_
  refine JO.pur rfl rfl rfl (Pur.move rfl) ?_
  refine JO.pur rfl rfl rfl (Pur.assign rfl) ?_
  refine JO.nil ?_
  refine J.ret rfl rfl ?_
  have hv : acceptF F n = (F, 230) := by unfold acceptF; rw [hx]; dsimp only; rw [if_pos hme]
  refine ⟨_, _, ⟨rfl, rfl⟩, by rw [hv]; rfl, fun h s => ?_⟩
  rw [hv]; exact s

theorem rAccept_pop {L : List Asn} {p : Nat} {F : Fl} {n : Int} {i : Nat} {k : Nat} (g : Hf.Good F k) (hk : k ≤ 100000) (hx : ix F n = some i) (hme : ¬ (ch F i).marks = []) :
    CallS Try.prog 51 [.pointer (some ⟨p, 0, none⟩), .int .i64 n].toArray (RA p F :: L) (fun v M => v = .int .i64 (acceptF F n).2 ∧ M = RA p (acceptF F n).1 :: L) := by
  refine CallS.ent ?_
  refine CallS.enter Try.func51 rfl rfl rfl rfl rfl ?_
  refine J.seq rfl ?_
  refine J.region rfl ?_
  refine JO.pur rfl rfl rfl (Pur.assign rfl) ?_
  refine JO.nil ?_
  refine J.seq rfl ?_
  refine J.region rfl ?_
  refine JO.pur rfl rfl rfl (Pur.move rfl) ?_
  refine JO.pur rfl rfl rfl (Pur.move rfl) ?_
  refine JO.eff rfl rfl rfl (Eff.call rfl (rlast_yes g hk hx hme)) ?_
  rintro _ _ ⟨rfl, rfl⟩
  refine JO.pur rfl rfl rfl (Pur.move rfl) ?_
  refine JO.pur rfl rfl rfl (Pur.extract rfl rfl) ?_
  refine JO.pur rfl rfl rfl (Pur.extract rfl rfl) ?_
  refine JO.pur rfl rfl rfl (Pur.extract rfl rfl) ?_
  refine JO.pur rfl rfl rfl (Pur.assign rfl) ?_
  refine JO.pur rfl rfl rfl (Pur.assign rfl) ?_
  refine JO.pur rfl rfl rfl (Pur.assign rfl) ?_
  refine JO.nil ?_
  refine J.seq rfl ?_
  refine J.region rfl ?_
  refine JO.pur rfl rfl rfl (Pur.move rfl) ?_
  refine JO.pur rfl rfl rfl (Pur.assign rfl) ?_
  refine JO.nil ?_
  refine J.ret rfl rfl ?_
  have hv : acceptF F n = (upd F i (popC (ch F i)), 0) := by unfold acceptF; rw [hx]; dsimp only; rw [if_neg hme]
  refine ⟨_, _, ⟨rfl, rfl⟩, by rw [hv]; rfl, fun h s => ?_⟩
  rw [hv]; exact s

theorem rAccept_ok {L : List Asn} {p : Nat} {F : Fl} {n : Int} {k : Nat} (g : Hf.Good F k) (hk : k ≤ 100000) : CallS Try.prog 51 [.pointer (some ⟨p, 0, none⟩), .int .i64 n].toArray (RA p F :: L) (fun v M => v = .int .i64 (acceptF F n).2 ∧ M = RA p (acceptF F n).1 :: L) := by
  cases hx : ix F n with
  | none => exact rAccept_no g hk hx
  | some i =>
    by_cases hme : (ch F i).marks = []
    · exact rAccept_emp g hk hx hme
    · exact rAccept_pop g hk hx hme
theorem rRevert_no {L : List Asn} {p : Nat} {F : Fl} {n : Int} {k : Nat} (g : Hf.Good F k) (hk : k ≤ 100000) (hx : ix F n = none) :
    CallS Try.prog 50 [.pointer (some ⟨p, 0, none⟩), .int .i64 n].toArray (RA p F :: L) (fun v M => v = .int .i64 (revertF F n).2 ∧ M = RA p (revertF F n).1 :: L) := by
  refine CallS.ent ?_
  refine CallS.enter Try.func50 rfl rfl rfl rfl rfl ?_
  refine J.seq rfl ?_
  refine J.region rfl ?_
  refine JO.pur rfl rfl rfl (Pur.assign rfl) ?_
  refine JO.nil ?_
  refine J.seq rfl ?_
  refine J.region rfl ?_
  refine JO.pur rfl rfl rfl (Pur.move rfl) ?_
  refine JO.pur rfl rfl rfl (Pur.move rfl) ?_
  refine JO.eff rfl rfl rfl (Eff.call rfl (rlast_no g hk hx)) ?_
  rintro _ _ ⟨rfl, rfl⟩
  refine JO.pur rfl rfl rfl (Pur.move rfl) ?_
  refine JO.pur rfl rfl rfl (Pur.extract rfl rfl) ?_
  refine JO.pur rfl rfl rfl (Pur.extract rfl rfl) ?_
  refine JO.pur rfl rfl rfl (Pur.extract rfl rfl) ?_
  refine JO.pur rfl rfl rfl (Pur.assign rfl) ?_
  refine JO.pur rfl rfl rfl (Pur.assign rfl) ?_
  refine JO.pur rfl rfl rfl (Pur.assign rfl) ?_
  refine JO.nil ?_
  refine J.seq rfl ?_
  refine J.seq rfl ?_
  refine J.region rfl ?_
  refine JO.pur rfl rfl rfl (Pur.move rfl) ?_
  refine JO.pur rfl rfl rfl (Pur.neqI rfl rfl) ?_
  refine JO.setv (u' := .bool true) 16 rfl (congrArg Value.bool (rfl)) ?_
  refine JO.nil ?_
  refine J.condT rfl rfl ?_
  refine J.seq rfl ?_
  refine J.region rfl ?_
  refine JO.pur rfl rfl rfl (Pur.move rfl) ?_
  refine JO.pur rfl rfl rfl (Pur.assign rfl) ?_
  refine JO.nil ?_
  refine J.ret rfl rfl ?_
  have hv : revertF F n = (F, 5) := by unfold revertF; rw [hx]
  refine ⟨_, _, ⟨rfl, rfl⟩, by rw [hv]; rfl, fun h s => ?_⟩
  rw [hv]; exact s

theorem rRevert_emp {L : List Asn} {p : Nat} {F : Fl} {n : Int} {i : Nat} {k : Nat} (g : Hf.Good F k) (hk : k ≤ 100000) (hx : ix F n = some i) (hme : (ch F i).marks = []) :
    CallS Try.prog 50 [.pointer (some ⟨p, 0, none⟩), .int .i64 n].toArray (RA p F :: L) (fun v M => v = .int .i64 (revertF F n).2 ∧ M = RA p (revertF F n).1 :: L) := by
  refine CallS.ent ?_
  refine CallS.enter Try.func50 rfl rfl rfl rfl rfl ?_
  refine J.seq rfl ?_
  refine J.region rfl ?_
  refine JO.pur rfl rfl rfl (Pur.assign rfl) ?_
  refine JO.nil ?_
  refine J.seq rfl ?_
  refine J.region rfl ?_
  refine JO.pur rfl rfl rfl (Pur.move rfl) ?_
  refine JO.pur rfl rfl rfl (Pur.move rfl) ?_
  refine JO.eff rfl rfl rfl (Eff.call rfl (rlast_emp g hk hx hme)) ?_
  rintro _ _ ⟨rfl, rfl⟩
  refine JO.pur rfl rfl rfl (Pur.move rfl) ?_
  refine JO.pur rfl rfl rfl (Pur.extract rfl rfl) ?_
  refine JO.pur rfl rfl rfl (Pur.extract rfl rfl) ?_
  refine JO.pur rfl rfl rfl (Pur.extract rfl rfl) ?_
  refine JO.pur rfl rfl rfl (Pur.assign rfl) ?_
  refine JO.pur rfl rfl rfl (Pur.assign rfl) ?_
  refine JO.pur rfl rfl rfl (Pur.assign rfl) ?_
  refine JO.nil ?_
  refine J.seq rfl ?_
  refine J.seq rfl ?_
  refine J.region rfl ?_
  refine JO.pur rfl rfl rfl (Pur.move rfl) ?_
  refine JO.pur rfl rfl rfl (Pur.neqI rfl rfl) ?_
  refine JO.setv (u' := .bool true) 16 rfl (congrArg Value.bool (rfl)) ?_
  refine JO.nil ?_
  refine J.condT rfl rfl ?_
  refine J.seq rfl ?_
  refine J.region rfl ?_
  refine JO.pur rfl rfl rfl (Pur.move rfl) ?_
  refine JO.pur rfl rfl rfl (Pur.assign rfl) ?_
  refine JO.nil ?_
  refine J.ret rfl rfl ?_
  have hv : revertF F n = (F, 230) := by unfold revertF; rw [hx]; dsimp only; rw [if_pos hme]
  refine ⟨_, _, ⟨rfl, rfl⟩, by rw [hv]; rfl, fun h s => ?_⟩
  rw [hv]; exact s

theorem rRevert_pop {L : List Asn} {p : Nat} {F : Fl} {n : Int} {i : Nat} {k : Nat} (g : Hf.Good F k) (hk : k ≤ 100000) (hx : ix F n = some i) (hme : ¬ (ch F i).marks = []) :
    CallS Try.prog 50 [.pointer (some ⟨p, 0, none⟩), .int .i64 n].toArray (RA p F :: L) (fun v M => v = .int .i64 (revertF F n).2 ∧ M = RA p (revertF F n).1 :: L) := by
  refine CallS.ent ?_
  refine CallS.enter Try.func50 rfl rfl rfl rfl rfl ?_
  refine J.seq rfl ?_
  refine J.region rfl ?_
  refine JO.pur rfl rfl rfl (Pur.assign rfl) ?_
  refine JO.nil ?_
  refine J.seq rfl ?_
  refine J.region rfl ?_
  refine JO.pur rfl rfl rfl (Pur.move rfl) ?_
  refine JO.pur rfl rfl rfl (Pur.move rfl) ?_
  refine JO.eff rfl rfl rfl (Eff.call rfl (rlast_yes g hk hx hme)) ?_
  rintro _ _ ⟨rfl, rfl⟩
  refine JO.pur rfl rfl rfl (Pur.move rfl) ?_
  refine JO.pur rfl rfl rfl (Pur.extract rfl rfl) ?_
  refine JO.pur rfl rfl rfl (Pur.extract rfl rfl) ?_
  refine JO.setv (u' := .int .i64 (lastM (ch F i))) 13 rfl rfl ?_
  refine JO.pur rfl rfl rfl (Pur.extract rfl rfl) ?_
  refine JO.pur rfl rfl rfl (Pur.assign rfl) ?_
  refine JO.pur rfl rfl rfl (Pur.assign rfl) ?_
  refine JO.pur rfl rfl rfl (Pur.assign rfl) ?_
  refine JO.nil ?_
  refine J.seq rfl ?_
  refine J.seq rfl ?_
  refine J.region rfl ?_
  refine JO.pur rfl rfl rfl (Pur.move rfl) ?_
  refine JO.pur rfl rfl rfl (Pur.neqI rfl rfl) ?_
  refine JO.setv (u' := .bool false) 16 rfl (congrArg Value.bool (rfl)) ?_
  refine JO.nil ?_
  refine J.condF rfl rfl ?_
  refine J.skip rfl ?_
  refine J.seq rfl ?_
  obtain ⟨hil, hch, hnum⟩ := ix_some hx
  have gc := g.gc _ (ch_mem hx)
  have hl1 := gc.m1 _ (last_in hme)
  have ga4 := gc.at4
  have gt4 := gc.t4
  have gf0 := gc.f0
  have gol := g.ol
  obtain ⟨F2, hF2⟩ : ∃ F2, F2 = upd F i (popC (ch F i)) := ⟨_, rfl⟩
  rw [← hF2]
  have hc2 : ch F2 i = popC (ch F i) := by rw [hF2]; exact ch_upd hil
  have hil2 : i < F2.opens.length := by rw [hF2]; simpa [upd] using hil
  have hch2 : F2.opens[i]? = some (ch F2 i) := ch_get hil2
  refine RA_open fun ab cb ao co rs hr => ?_
  obtain ⟨r, hrg⟩ : ∃ r, rs[i]? = some r := ⟨_, List.getElem?_eq_getElem (by omega)⟩
  have hrl := rcL_len hr
  have hrc := rcL_get hrg hch2
  refine J.imp (fun h s => rm_take (rs := rs) (cs := F2.opens) (i := i) hrg hch2 s) ?_
  have hwe : (ch F2 i).wr = (ch F i).wr := by rw [hc2]; rfl
  have hse : (ch F2 i).st = (ch F i).st := by rw [hc2]; rfl
  have hpe : (ch F2 i).pend = (ch F i).pend := by rw [hc2]; rfl
  refine J.region rfl ?_
  refine JO.pur rfl rfl rfl (Pur.move rfl) ?_
  refine JO.pur rfl rfl rfl (Pur.nilCheck rfl) ?_
  refine JO.pur rfl rfl rfl (Pur.fieldAddr rfl) ?_
  refine JO.pur rfl rfl rfl (Pur.load rfl (CellIn.blk rfl)) ?_
  refine JO.pur rfl rfl rfl (Pur.move rfl) ?_
  refine JO.pur rfl rfl rfl (Pur.move rfl) ?_
  refine JO.pur rfl rfl rfl (Pur.idx rfl rfl rfl (by first | rfl | (simp; done) | omega | (rw [List.length_set, hrl])) rfl (by omega)) ?_
  refine JO.pur rfl rfl rfl (Pur.fieldAddr rfl) ?_
  refine JO.effN rfl rfl (Eff.storeS (E := rcE) (a := ao) (z := rcOf r (ch F2 i)) (z' := (⟨(ch F2 i).num, (ch F2 i).fr, (ch F2 i).to, (lastM (ch F i)), (ch F2 i).wr, (ch F2 i).st, r.ap, (ch F2 i).pend.length, r.cp, r.am, (ch F2 i).marks.length, r.cm⟩ : Rc)) rfl rfl rfl rfl hrc (.tail (.tail (.tail .head)))) ?_
  rintro _ _ ⟨rfl, rfl⟩
  refine JO.nil ?_
  refine J.seq rfl ?_
  refine J.seq rfl ?_
  refine J.region rfl ?_
  refine JO.pur rfl rfl rfl (Pur.move rfl) ?_
  refine JO.pur rfl rfl rfl (Pur.nilCheck rfl) ?_
  refine JO.pur rfl rfl rfl (Pur.fieldAddr rfl) ?_
  refine JO.pur rfl rfl rfl (Pur.load rfl (CellIn.blk rfl)) ?_
  refine JO.pur rfl rfl rfl (Pur.move rfl) ?_
  refine JO.pur rfl rfl rfl (Pur.idx rfl rfl rfl (by first | rfl | (simp; done) | omega | (rw [List.length_set, hrl])) rfl (by rw [List.length_set, hrl]; omega)) ?_
  refine JO.pur rfl rfl rfl (Pur.fieldAddr rfl) ?_
  refine JO.pur rfl rfl rfl (Pur.load rfl (CellIn.el rfl (by exact List.getElem?_set_self (by rw [hrl]; omega)) rfl)) ?_
  refine JO.setv (u' := .bool (ch F2 i).wr) 33 rfl rfl ?_
  refine JO.nil ?_
  refine J.splitB 33 rfl (fun h33 => ?_) (fun h33 => ?_)
  · try simp only [decide_eq_true_eq, decide_eq_false_iff_not, Bool.not_eq_true', Bool.not_eq_false', Bool.and_eq_true, Bool.or_eq_true, Bool.and_eq_false_iff, Bool.or_eq_false_iff, Option.isNone_some, Option.isSome_some, Option.isNone_none, Option.isSome_none, Int.not_lt, Int.not_le, beq_iff_eq, beq_eq_false_iff_ne, bne_iff_ne, ne_eq, Bool.not_not, Decidable.not_not] at h33
    have hw : (ch F i).wr = true := by rw [← hwe]; exact h33
    have hms := gc.m2 hw _ (last_in hme)
    have hw1 := gc.w1 hw
    have hcut : lastM (ch F i) - (ch F2 i).st = ((lastM (ch F i) - (ch F2 i).st).toNat : Int) := (Int.toNat_of_nonneg (by omega)).symm
    have hpl : ((ch F2 i).pend.take (lastM (ch F i) - (ch F2 i).st).toNat).length = (lastM (ch F i) - (ch F2 i).st).toNat := by rw [List.length_take, hpe]; omega
    refine J.fact (fun h s => SlH.le (a := r.ap) (cap := r.cp) (E := byE) s) fun hcapp => ?_
    refine J.condT rfl rfl ?_
    refine J.mask0 (n := 27) [26] rfl Try.mixed rfl (by kernel_rfl) ?_
    refine JM.take 0 (fun _ h => h) rfl (by kernel_rfl) rfl rfl rfl (m' := 1) rfl (Pur.move rfl) ?_
    refine JM.take 1 (fun _ h => h) rfl (by kernel_rfl) rfl rfl rfl (m' := 3) rfl (Pur.nilCheck rfl) ?_
    refine JM.take 2 (fun _ h => h) rfl (by kernel_rfl) rfl rfl rfl (m' := 7) rfl (Pur.fieldAddr rfl) ?_
    refine JM.take 3 (fun _ h => h) rfl (by kernel_rfl) rfl rfl rfl (m' := 15) rfl (Pur.load rfl (CellIn.blk rfl)) ?_
    refine JM.take 4 (fun _ h => h) rfl (by kernel_rfl) rfl rfl rfl (m' := 31) rfl (Pur.move rfl) ?_
    refine JM.take 5 (fun _ h => h) rfl (by kernel_rfl) rfl rfl rfl (m' := 63) rfl (Pur.move rfl) ?_
    refine JM.take 6 (fun _ h => h) rfl (by kernel_rfl) rfl rfl rfl (m' := 127) rfl (Pur.nilCheck rfl) ?_
    refine JM.take 7 (fun _ h => h) rfl (by kernel_rfl) rfl rfl rfl (m' := 255) rfl (Pur.fieldAddr rfl) ?_
    refine JM.take 8 (fun _ h => h) rfl (by kernel_rfl) rfl rfl rfl (m' := 511) rfl (Pur.load rfl (CellIn.blk rfl)) ?_
    refine JM.take 9 (fun _ h => h) rfl (by kernel_rfl) rfl rfl rfl (m' := 1023) rfl (Pur.move rfl) ?_
    refine JM.take 10 (fun _ h => h) rfl (by kernel_rfl) rfl rfl rfl (m' := 2047) rfl (Pur.idx rfl rfl rfl (by first | rfl | (simp; done) | omega | (rw [List.length_set, hrl])) rfl (by rw [List.length_set, hrl]; omega)) ?_
    refine JM.take 11 (fun _ h => h) rfl (by kernel_rfl) rfl rfl rfl (m' := 4095) rfl (Pur.fieldAddr rfl) ?_
    refine JM.take 12 (fun _ h => h) rfl (by kernel_rfl) rfl rfl rfl (m' := 8191) rfl (Pur.load rfl (CellIn.el rfl (by exact List.getElem?_set_self (by rw [hrl]; omega)) rfl)) ?_
    refine JM.setv (u' := .slice r.ap (ch F2 i).pend.length r.cp) 46 rfl rfl ?_
    refine JM.take 13 (fun _ h => h) rfl (by kernel_rfl) rfl rfl rfl (m' := 16383) rfl (Pur.move rfl) ?_
    refine JM.take 14 (fun _ h => h) rfl (by kernel_rfl) rfl rfl rfl (m' := 32767) rfl (Pur.move rfl) ?_
    refine JM.take 15 (fun _ h => h) rfl (by kernel_rfl) rfl rfl rfl (m' := 65535) rfl (Pur.nilCheck rfl) ?_
    refine JM.take 16 (fun _ h => h) rfl (by kernel_rfl) rfl rfl rfl (m' := 131071) rfl (Pur.fieldAddr rfl) ?_
    refine JM.take 17 (fun _ h => h) rfl (by kernel_rfl) rfl rfl rfl (m' := 262143) rfl (Pur.load rfl (CellIn.blk rfl)) ?_
    refine JM.take 18 (fun _ h => h) rfl (by kernel_rfl) rfl rfl rfl (m' := 524287) rfl (Pur.move rfl) ?_
    refine JM.take 19 (fun _ h => h) rfl (by kernel_rfl) rfl rfl rfl (m' := 1048575) rfl (Pur.idx rfl rfl rfl (by first | rfl | (simp; done) | omega | (rw [List.length_set, hrl])) rfl (by rw [List.length_set, hrl]; omega)) ?_
    refine JM.take 20 (fun _ h => h) rfl (by kernel_rfl) rfl rfl rfl (m' := 2097151) rfl (Pur.fieldAddr rfl) ?_
    refine JM.take 21 (fun _ h => h) rfl (by kernel_rfl) rfl rfl rfl (m' := 4194303) rfl (Pur.load rfl (CellIn.el rfl (by exact List.getElem?_set_self (by rw [hrl]; omega)) rfl)) ?_
    refine JM.setv (u' := .int .i64 (ch F2 i).st) 55 rfl rfl ?_
    refine JM.take 22 (fun _ h => h) rfl (by kernel_rfl) rfl rfl rfl (m' := 8388607) rfl (Pur.sub rfl rfl (wr64 (by omega))) ?_
    refine JM.take 23 (fun _ h => h) rfl (by kernel_rfl) rfl rfl rfl (m' := 16777215) rfl (Pur.slice0 rfl rfl hcut (by rw [hpe] at hcapp; omega)) ?_
    refine JM.take 24 (fun _ h => h) rfl (by kernel_rfl) rfl rfl rfl (m' := 33554431) rfl (Pur.idx rfl rfl rfl (by first | rfl | (simp; done) | omega | (rw [List.length_set, hrl])) rfl (by rw [List.length_set, hrl]; omega)) ?_
    refine JM.take 25 (fun _ h => h) rfl (by kernel_rfl) rfl rfl rfl (m' := 67108863) rfl (Pur.fieldAddr rfl) ?_
    refine JM.one (i := 26) (by kernel_rfl) ?_
    refine JMi.effN rfl rfl rfl (m' := 134217727) rfl (Eff.storeS (E := rcE) (a := ao) (z := (⟨(ch F2 i).num, (ch F2 i).fr, (ch F2 i).to, (lastM (ch F i)), (ch F2 i).wr, (ch F2 i).st, r.ap, (ch F2 i).pend.length, r.cp, r.am, (ch F2 i).marks.length, r.cm⟩ : Rc)) (z' := (⟨(ch F2 i).num, (ch F2 i).fr, (ch F2 i).to, (lastM (ch F i)), (ch F2 i).wr, (ch F2 i).st, r.ap, (lastM (ch F i) - (ch F2 i).st).toNat, r.cp, r.am, (ch F2 i).marks.length, r.cm⟩ : Rc)) rfl rfl rfl rfl (by exact List.getElem?_set_self (by rw [hrl]; omega)) (.tail (.tail (.tail (.tail (.tail (.tail .head))))))) ?_
    rintro _ _ ⟨rfl, rfl⟩
    refine ⟨.inl (by simp), ?_⟩
    refine JM.done rfl ?_
    refine J.seq rfl ?_
    refine J.region rfl ?_
    refine JO.pur rfl rfl rfl (Pur.assign rfl) ?_
    refine JO.nil ?_
    refine J.ret rfl rfl ?_
    have hv : revertF F n = (upd F i (revC (ch F i)), 0) := by unfold revertF; rw [hx]; dsimp only; rw [if_neg hme]
    refine ⟨_, _, ⟨rfl, rfl⟩, by rw [hv]; rfl, fun h s => ?_⟩
    have hrv : upd F i (revC (ch F i)) = ⟨F2.bytes, F2.next, F2.opens.set i { ch F2 i with at' := lastM (ch F i), pend := (ch F2 i).pend.take (lastM (ch F i) - (ch F2 i).st).toNat }⟩ := by rw [hF2, ← hF2, hc2, hF2]; unfold revC; rw [if_pos hw]; simp only [upd, List.set_set] <;> rfl
    rw [hv, hrv]
    refine RA_shut (L := L) (p := p) (bs := F2.bytes) (nx := F2.next) (F := F2) (c' := { ch F2 i with at' := lastM (ch F i), pend := (ch F2 i).pend.take (lastM (ch F i) - (ch F2 i).st).toNat }) (ab := ab) (cb := cb) (ao := ao) (co := co) (ap := r.ap) (cp := r.cp) (am := r.am) (cm := r.cm) hr hrg hch2 ?_
    simp only [rcOf, hpl]
    have s2 := cut_sl (a := r.ap) (cap := r.cp) (E := byE) (lastM (ch F i) - (ch F2 i).st).toNat s
    simp only [List.set_set] at s2
    exact SubC.out h s2
  · try simp only [decide_eq_true_eq, decide_eq_false_iff_not, Bool.not_eq_true', Bool.not_eq_false', Bool.and_eq_true, Bool.or_eq_true, Bool.and_eq_false_iff, Bool.or_eq_false_iff, Option.isNone_some, Option.isSome_some, Option.isNone_none, Option.isSome_none, Int.not_lt, Int.not_le, beq_iff_eq, beq_eq_false_iff_ne, bne_iff_ne, ne_eq, Bool.not_not, Decidable.not_not] at h33
    have hw : ¬ (ch F i).wr = true := by rw [← hwe]; simpa using h33
    refine J.condF rfl rfl ?_
    refine J.skip rfl ?_
    refine J.seq rfl ?_
    refine J.region rfl ?_
    refine JO.pur rfl rfl rfl (Pur.assign rfl) ?_
    refine JO.nil ?_
    refine J.ret rfl rfl ?_
    have hv : revertF F n = (upd F i (revC (ch F i)), 0) := by unfold revertF; rw [hx]; dsimp only; rw [if_neg hme]
    refine ⟨_, _, ⟨rfl, rfl⟩, by rw [hv]; rfl, fun h s => ?_⟩
    have hrv : upd F i (revC (ch F i)) = ⟨F2.bytes, F2.next, F2.opens.set i { ch F2 i with at' := lastM (ch F i) }⟩ := by rw [hF2, ← hF2, hc2, hF2]; unfold revC; rw [if_neg hw]; simp only [upd, List.set_set] <;> rfl
    rw [hv, hrv]
    refine RA_shut (L := L) (p := p) (bs := F2.bytes) (nx := F2.next) (F := F2) (c' := { ch F2 i with at' := lastM (ch F i) }) (ab := ab) (cb := cb) (ao := ao) (co := co) (ap := r.ap) (cp := r.cp) (am := r.am) (cm := r.cm) hr hrg hch2 ?_
    simp only [rcOf]
    exact SubC.out h s

theorem rRevert_ok {L : List Asn} {p : Nat} {F : Fl} {n : Int} {k : Nat} (g : Hf.Good F k) (hk : k ≤ 100000) : CallS Try.prog 50 [.pointer (some ⟨p, 0, none⟩), .int .i64 n].toArray (RA p F :: L) (fun v M => v = .int .i64 (revertF F n).2 ∧ M = RA p (revertF F n).1 :: L) := by
  cases hx : ix F n with
  | none => exact rRevert_no g hk hx
  | some i =>
    by_cases hme : (ch F i).marks = []
    · exact rRevert_emp g hk hx hme
    · exact rRevert_pop g hk hx hme
end Go.Proofs.Ytgbckamaenapeaa

/- The text HCuts. -/
/-!
  The regions of a file that is cut, and the file that parts make together.
-/
set_option linter.unusedVariables false
set_option linter.unusedSimpArgs false
namespace Go.Proofs.Ytgbckamaenapeaa
open Go Go.KK Hf
def pairE : Enc (Int × Int) := ⟨29, 2, fun p => [.int .i64 p.1, .int .i64 p.2], fun _ => rfl, fun s v h => by
  simp only [List.mem_cons, List.not_mem_nil, or_false] at h; rcases h with rfl | rfl <;> rfl⟩
def hbE : Enc Hdr := hdrE 24
def cutA (size n : Int) (k : Nat) : Int := Int.tdiv ((k : Int) * size) n
def cutP (size n : Int) (k : Nat) : Int × Int := (cutA size n k, cutA size n (k + 1))
def badC (size n : Int) : Prop := size < 0 ∨ 400 < size ∨ n < 1 ∨ 16 < n
instance (size n : Int) : Decidable (badC size n) := by unfold badC; infer_instance
def cutsV (size n : Int) : List (Int × Int) × Int := if badC size n then ([], 2) else ((List.range n.toNat).map (cutP size n), 0)
section
variable {size n : Int} (h : ¬ badC size n)
include h
theorem cut_in : 0 ≤ size ∧ size ≤ 400 ∧ 1 ≤ n ∧ n ≤ 16 := by unfold badC at h; omega
theorem cut_mul {k : Nat} (hk : k ≤ 17) : 0 ≤ (k : Int) * size ∧ (k : Int) * size ≤ 6800 := by
  have := cut_in h
  refine ⟨Int.mul_nonneg (by omega) this.1, ?_⟩
  have h1 : (k : Int) * size ≤ 17 * size := Int.mul_le_mul_of_nonneg_right (by omega) this.1
  omega
theorem cut_ediv {k : Nat} (hk : k ≤ 17) : cutA size n k = (k : Int) * size / n := by
  unfold cutA; exact Int.tdiv_eq_ediv_of_nonneg (cut_mul h hk).1
theorem cut_nonneg {k : Nat} (hk : k ≤ 17) : 0 ≤ cutA size n k ∧ cutA size n k ≤ 6800 := by
  have h1 := cut_mul h hk
  have h2 := cut_in h
  rw [cut_ediv h hk]
  exact ⟨Int.ediv_nonneg h1.1 (by omega), Int.le_trans (Int.ediv_le_self _ h1.1) h1.2⟩
theorem cut_mono {k : Nat} (hk : k ≤ 16) : cutA size n k ≤ cutA size n (k + 1) := by
  have h2 := cut_in h
  rw [cut_ediv h (by omega), cut_ediv h (by omega)]
  refine Int.ediv_le_ediv (by omega) ?_
  exact Int.mul_le_mul_of_nonneg_right (by omega) h2.1
theorem cut_top {k : Nat} (hk : (k : Int) ≤ n) : cutA size n k ≤ size := by
  have h2 := cut_in h
  rw [cut_ediv h (by omega)]
  have h1 : (k : Int) * size ≤ n * size := Int.mul_le_mul_of_nonneg_right hk h2.1
  have h3 := Int.ediv_le_ediv (c := n) (by omega) h1
  rwa [Int.mul_ediv_cancel_left _ (by omega)] at h3
theorem cut_get {k : Nat} (hk : (k : Int) < n) : (cutsV size n).1[k]? = some (cutP size n k) := by
  unfold cutsV; rw [if_neg h]; simp only [List.getElem?_map]; rw [List.getElem?_range (by omega)]; rfl
theorem cut_len : (cutsV size n).1.length = n.toNat := by unfold cutsV; rw [if_neg h]; simp
theorem cut_err : (cutsV size n).2 = 0 := by unfold cutsV; rw [if_neg h]
end
theorem cut_bad {size n : Int} (h : badC size n) : cutsV size n = ([], 2) := by unfold cutsV; rw [if_pos h]
theorem cut_of {size n : Int} (h : (cutsV size n).2 = 0) : ¬ badC size n := by
  intro hb; rw [cut_bad hb] at h; cases h
/-- The file of the first k parts. -/
def togB (size : Int) (parts : List (List UInt8)) : Nat → List UInt8
  | 0 => List.replicate size.toNat 0
  | k + 1 => spl (togB size parts k) (cutA size parts.length k).toNat (parts.getD k [])
def fits (size : Int) (parts : List (List UInt8)) (k : Nat) : Prop := ((parts.getD k []).length : Int) ≤ cutA size parts.length (k + 1) - cutA size parts.length k
instance (size : Int) (parts : List (List UInt8)) (k : Nat) : Decidable (fits size parts k) := by unfold fits; infer_instance
def allFit (size : Int) (parts : List (List UInt8)) : Bool := (List.range parts.length).all (fun k => decide (fits size parts k))
theorem allFit_iff {size : Int} {parts : List (List UInt8)} : allFit size parts = true ↔ ∀ k, k < parts.length → fits size parts k := by
  unfold allFit; rw [List.all_eq_true]; simp
def togV (size : Int) (parts : List (List UInt8)) : List UInt8 × Int :=
  if badC size parts.length then ([], 2) else if allFit size parts = true then (togB size parts parts.length, 0) else ([], 230)
theorem togV_bad {size : Int} {parts : List (List UInt8)} (h : badC size parts.length) : togV size parts = ([], 2) := by unfold togV; rw [if_pos h]
theorem togV_no {size : Int} {parts : List (List UInt8)} (h : ¬ badC size parts.length) {k : Nat} (hk : k < parts.length) (hf : ¬ fits size parts k) : togV size parts = ([], 230) := by
  unfold togV; rw [if_neg h, if_neg (fun ha => hf (allFit_iff.1 ha k hk))]
theorem togV_yes {size : Int} {parts : List (List UInt8)} (h : ¬ badC size parts.length) (hf : ∀ k, k < parts.length → fits size parts k) : togV size parts = (togB size parts parts.length, 0) := by
  unfold togV; rw [if_neg h, if_pos (allFit_iff.2 hf)]
theorem fit_end {size : Int} {parts : List (List UInt8)} (h : ¬ badC size parts.length) {k : Nat} (hk : k < parts.length) (hf : fits size parts k) : (cutA size parts.length k).toNat + (parts.getD k []).length ≤ size.toNat := by
  have h2 := cut_in h
  have h1 := cut_nonneg h (k := k) (by omega)
  have h3 := cut_top h (k := k + 1) (by omega)
  unfold fits at hf; omega
theorem togB_len {size : Int} {parts : List (List UInt8)} (h : ¬ badC size parts.length) : ∀ {k : Nat}, k ≤ parts.length → (∀ j, j < k → fits size parts j) → (togB size parts k).length = size.toNat
  | 0, _, _ => by simp [togB]
  | k + 1, hk, hf => by
    have ih := togB_len h (k := k) (by omega) (fun j hj => hf j (by omega))
    rw [togB, spl_len (by rw [ih]; exact fit_end h (by omega) (hf k (by omega))), ih]
theorem togV_len (size : Int) (parts : List (List UInt8)) : (togV size parts).1.length ≤ 400 := by
  unfold togV
  split
  · simp
  · rename_i h
    split
    · rename_i hf
      have := cut_in h
      show (togB size parts parts.length).length ≤ 400
      rw [togB_len h (Nat.le_refl _) (allFit_iff.1 hf)]; omega
    · simp
theorem getD_part {parts : List (List UInt8)} {k : Nat} (h : k < parts.length) : parts[k]? = some (parts.getD k []) := by simp [List.getD_eq_getElem?_getD, h]
end Go.Proofs.Ytgbckamaenapeaa

/- The text HP4. -/
/-! Writers beside each other: the file through one run of ChannelTogether. No program in sight. -/
set_option linter.unusedVariables false
set_option linter.unusedSimpArgs false
set_option linter.unusedSectionVars false
namespace Go.Proofs.Ytgbckamaenapeaa
open Go Go.KK Hf
theorem spl_get {α : Type} {xs ys : List α} {j : Nat} (h : j + ys.length ≤ xs.length) (k : Nat) : (spl xs j ys)[k]? = if k < j then xs[k]? else if k < j + ys.length then ys[k - j]? else xs[k]? := by
  have h1 : (xs.take j).length = j := by rw [List.length_take]; omega
  unfold spl
  rw [List.append_assoc, List.getElem?_append, h1]
  by_cases hk : k < j
  · rw [if_pos hk, if_pos hk, List.getElem?_take, if_pos hk]
  · rw [if_neg hk, if_neg hk, List.getElem?_append]
    by_cases hk2 : k < j + ys.length
    · rw [if_pos (by omega), if_pos hk2]
    · rw [if_neg (by omega), if_neg hk2, List.getElem?_drop]; congr 1; omega
theorem spl_comm {α : Type} {xs a b : List α} {i j : Nat} (h1 : i + a.length ≤ j) (h2 : j + b.length ≤ xs.length) : spl (spl xs j b) i a = spl (spl xs i a) j b := by
  have l1 : (spl xs j b).length = xs.length := spl_len h2
  have l2 : (spl xs i a).length = xs.length := spl_len (by omega)
  apply List.ext_getElem?
  intro k
  rw [spl_get (by omega), spl_get h2, spl_get (by omega), spl_get (by omega)]
  by_cases c1 : k < i
  · rw [if_pos c1, if_pos (by omega), if_pos (by omega), if_pos c1]
  · rw [if_neg c1]
    by_cases c2 : k < i + a.length
    · rw [if_pos c2, if_pos (by omega), if_neg c1, if_pos c2]
    · rw [if_neg c2]
      by_cases c3 : k < j
      · rw [if_pos c3, if_pos c3, if_neg c1, if_neg c2]
      · rw [if_neg c3, if_neg c3, if_neg c1, if_neg c2]
def asc (c : Nat → Nat) (p : Nat → List UInt8) (B : List UInt8) : Nat → List UInt8
  | 0 => B
  | k + 1 => spl (asc c p B k) (c k) (p k)
/-- From the last part down, t of n parts. -/
def dsc (c : Nat → Nat) (p : Nat → List UInt8) (n : Nat) (B : List UInt8) : Nat → List UInt8
  | 0 => B
  | t + 1 => spl (dsc c p n B t) (c (n - 1 - t)) (p (n - 1 - t))
section
variable {c : Nat → Nat} {p : Nat → List UInt8} {n S : Nat} (hc : ∀ i, i < n → c i + (p i).length ≤ c (i + 1)) (hS : ∀ i, i ≤ n → c i ≤ S)
include hc hS
theorem c_mono {i : Nat} : ∀ {j : Nat}, i ≤ j → j ≤ n → c i ≤ c j
  | 0, h, _ => by rw [show i = 0 by omega]; exact Nat.le_refl _
  | j + 1, h, hj => by
    by_cases e : i = j + 1
    · rw [e]; exact Nat.le_refl _
    · have := c_mono (i := i) (j := j) (by omega) (by omega); have := hc j (by omega); omega
theorem asc_len {B : List UInt8} (hB : B.length = S) : ∀ {k : Nat}, k ≤ n → (asc c p B k).length = S
  | 0, _ => hB
  | k + 1, hk => by
    have ih := asc_len hB (k := k) (by omega)
    have h1 := hc k (by omega); have h2 := hS (k + 1) hk
    rw [asc, spl_len (by rw [ih]; omega), ih]
theorem dsc_len {B : List UInt8} (hB : B.length = S) : ∀ {t : Nat}, t ≤ n → (dsc c p n B t).length = S
  | 0, _ => hB
  | t + 1, ht => by
    have ih := dsc_len hB (t := t) (by omega)
    have h1 := hc (n - 1 - t) (by omega); have h2 := hS (n - 1 - t + 1) (by omega)
    rw [dsc, spl_len (by rw [ih]; omega), ih]
theorem asc_comm {B b : List UInt8} {j : Nat} (hB : B.length = S) (hj : j < n) (hb : c j + b.length ≤ S) : ∀ {k : Nat}, k ≤ j → asc c p (spl B (c j) b) k = spl (asc c p B k) (c j) b
  | 0, _ => rfl
  | k + 1, hk => by
    have ih := asc_comm hB hj hb (k := k) (by omega)
    have h1 := hc k (by omega)
    have h2 := c_mono hc hS (i := k + 1) (j := j) hk (by omega)
    have h3 := asc_len hc hS hB (k := k) (by omega)
    rw [asc, ih, asc, spl_comm (by omega) (by omega)]
theorem asc_dsc {B : List UInt8} (hB : B.length = S) : ∀ {t : Nat}, t ≤ n → asc c p (dsc c p n B t) (n - t) = asc c p B n
  | 0, _ => rfl
  | t + 1, ht => by
    have ih := asc_dsc hB (t := t) (by omega)
    have h1 := hc (n - 1 - t) (by omega); have h2 := hS (n - 1 - t + 1) (by omega)
    rw [dsc, asc_comm hc hS (dsc_len hc hS hB (by omega)) (by omega) (by omega) (by omega), show n - (t + 1) = n - 1 - t by omega]
    rw [show n - t = n - 1 - t + 1 by omega, asc] at ih
    exact ih
theorem dsc_all {B : List UInt8} (hB : B.length = S) : dsc c p n B n = asc c p B n := by
  have h := asc_dsc hc hS hB (t := n) (Nat.le_refl _)
  rw [Nat.sub_self] at h; exact h
end
section
variable (size : Int) (parts : List (List UInt8))
def cN (k : Nat) : Nat := (cutA size parts.length k).toNat
def pN (k : Nat) : List UInt8 := parts.getD k []
def Z0 : List UInt8 := List.replicate size.toNat 0
def DB (j : Nat) : List UInt8 := dsc (cN size parts) (pN parts) parts.length (Z0 size) (parts.length - j)
def Wr (i : Nat) (d : Bool) : Ch := ⟨(i : Int) + 1, cutA size parts.length i, cutA size parts.length (i + 1), cutA size parts.length i + (if d = true then ((parts.getD i []).length : Int) else 0), true, cutA size parts.length i, if d = true then parts.getD i [] else [], []⟩
def TF (B : List UInt8) (nx : Int) (m : Nat) (d : Nat → Bool) : Fl := ⟨B, nx, (List.range m).map (fun i => Wr size parts i (d i))⟩
def setd (d : Nat → Bool) (i : Nat) : Nat → Bool := fun j => if j = i then true else d j
def numsT (m : Nat) : List Int := (List.range m).map (fun i => ((i + 1 : Nat) : Int))
end
theorem asc_togB {size : Int} {parts : List (List UInt8)} : ∀ k, asc (cN size parts) (pN parts) (Z0 size) k = togB size parts k
  | 0 => rfl
  | k + 1 => by rw [asc, togB, asc_togB k]; rfl
theorem TF_len {size : Int} {parts : List (List UInt8)} {B : List UInt8} {nx : Int} {m : Nat} {d : Nat → Bool} : (TF size parts B nx m d).opens.length = m := by simp [TF]
theorem TF_get {size : Int} {parts : List (List UInt8)} {B : List UInt8} {nx : Int} {m : Nat} {d : Nat → Bool} {i : Nat} (h : i < m) : (TF size parts B nx m d).opens[i]? = some (Wr size parts i (d i)) := by
  simp [TF, h]
theorem TF_ch {size : Int} {parts : List (List UInt8)} {B : List UInt8} {nx : Int} {m : Nat} {d : Nat → Bool} {i : Nat} (h : i < m) : ch (TF size parts B nx m d) i = Wr size parts i (d i) := by
  unfold ch; rw [List.getD_eq_getElem?_getD, TF_get h]; rfl
theorem TF_ix {size : Int} {parts : List (List UInt8)} {B : List UInt8} {nx : Int} {m : Nat} {d : Nat → Bool} {i : Nat} (h : i < m) : ix (TF size parts B nx m d) ((i : Int) + 1) = some i := by
  unfold ix
  rw [List.findIdx?_eq_some_iff_getElem]
  refine ⟨by rw [TF_len]; exact h, ?_, fun j hj => ?_⟩
  · simp [TF, Wr]
  · simp [TF, Wr]; omega
section
variable {size : Int} {parts : List (List UInt8)} (hok : ¬ badC size parts.length)
include hok
theorem cA_mono {i : Nat} : ∀ {j : Nat}, i ≤ j → j ≤ parts.length → cutA size parts.length i ≤ cutA size parts.length j
  | 0, h, _ => by rw [show i = 0 by omega]; exact Int.le_refl _
  | j + 1, h, hj => by
    by_cases e : i = j + 1
    · rw [e]; exact Int.le_refl _
    · have h3 := cut_in hok
      have h1 := cA_mono (i := i) (j := j) (by omega) (by omega); have h2 := cut_mono hok (k := j) (by omega); omega
theorem tf_begin {B : List UInt8} {nx : Int} {m : Nat} (hm : m < parts.length) (hnx : nx = (m : Int) + 1) : beginF (TF size parts B nx m (fun _ => false)) (cutA size parts.length m) (cutA size parts.length (m + 1)) true = (TF size parts B (nx + 1) (m + 1) (fun _ => false), nx, 0) := by
  have h3 := cut_in hok
  have h1 := cut_nonneg hok (k := m) (by omega)
  have h2 := cut_mono hok (k := m) (by omega)
  have h4 := cut_top hok (k := m + 1) (by omega)
  have hb : (TF size parts B nx m (fun _ => false)).opens.any (busy true (cutA size parts.length m) (cutA size parts.length (m + 1))) = false := by
    rw [List.any_eq_false]
    intro c hc
    simp only [TF, List.mem_map, List.mem_range] at hc
    obtain ⟨j, hj, rfl⟩ := hc
    have h5 := cA_mono hok (i := j + 1) (j := m) hj (by omega)
    simp only [busy, Wr, Bool.or_true, Bool.true_and]
    intro hh
    have h6 := of_decide_eq_true hh
    omega
  unfold beginF
  rw [if_neg (by omega), if_neg (by rw [hb]; simp)]
  subst hnx
  simp only [TF, List.range_succ, List.map_append, List.map_cons, List.map_nil, newC, Wr, Bool.false_eq_true, if_false, Int.add_zero]
theorem tf_write {B : List UInt8} {nx : Int} {m : Nat} {d : Nat → Bool} {i : Nat} (hi : i < m) (hd : d i = false) (hf : fits size parts i) : writeF (TF size parts B nx m d) ((i : Int) + 1) (parts.getD i []) = (TF size parts B nx m (setd d i), 0) := by
  unfold writeF
  rw [TF_ix hi]; dsimp only
  rw [TF_ch hi, hd]
  unfold fits at hf
  rw [if_neg (by rintro (h | h); cases h; simp only [Wr, Bool.false_eq_true, if_false] at h; omega)]
  simp only [upd, TF, Prod.mk.injEq, Fl.mk.injEq, and_true, true_and]
  apply List.ext_getElem?
  intro j
  rw [List.getElem?_set, List.getElem?_map, List.getElem?_map]
  by_cases hj : j < m
  · rw [List.getElem?_range hj]
    by_cases e : i = j
    · subst e
      rw [if_pos rfl, if_pos (by simp [hi])]
      simp [setd, Wr]
    · rw [if_neg e]
      simp [setd, Ne.symm e]
  · rw [List.getElem?_eq_none (by simp; omega), if_neg (by omega)]; rfl
theorem tf_close {B : List UInt8} {nx : Int} {m : Nat} {d : Nat → Bool} : closeF (TF size parts B nx (m + 1) d) ((m : Int) + 1) = (TF size parts (putB B (Wr size parts m (d m))) nx m d, 0) := by
  unfold closeF
  rw [TF_ix (by omega)]; dsimp only
  rw [TF_ch (by omega)]
  simp only [TF, Prod.mk.injEq, Fl.mk.injEq, and_true, true_and]
  rw [List.range_succ, List.map_append, List.eraseIdx_append_of_length_le (by simp)]
  simp
theorem tf_all {B : List UInt8} {nx : Int} {m : Nat} {d e : Nat → Bool} (h : ∀ i, i < m → d i = e i) : TF size parts B nx m d = TF size parts B nx m e := by
  unfold TF
  congr 1
  exact List.map_congr_left fun i hi => by rw [h i (List.mem_range.1 hi)]
theorem fit_c (hft : ∀ k, k < parts.length → fits size parts k) : ∀ i, i < parts.length → cN size parts i + (pN parts i).length ≤ cN size parts (i + 1) := fun i hi => by
  have h3 := cut_in hok
  have h1 := cut_nonneg hok (k := i) (by omega)
  have h2 := hft i hi
  unfold fits at h2
  unfold cN pN; omega
theorem fit_s : ∀ i, i ≤ parts.length → cN size parts i ≤ size.toNat := fun i hi => by
  have h4 := cut_top hok (k := i) (by omega)
  unfold cN; omega
theorem DB_top : DB size parts parts.length = Z0 size := by unfold DB; rw [Nat.sub_self]; rfl
theorem DB_step (hft : ∀ k, k < parts.length → fits size parts k) {j : Nat} (hj : j < parts.length) : putB (DB size parts (j + 1)) (Wr size parts j true) = DB size parts j := by
  have e : DB size parts j = spl (DB size parts (j + 1)) (cN size parts j) (pN parts j) := by
    unfold DB
    rw [show parts.length - j = parts.length - (j + 1) + 1 by omega, dsc, show parts.length - 1 - (parts.length - (j + 1)) = j by omega]
  have hl := dsc_len (fit_c hok hft) (fit_s hok) (B := Z0 size) (by simp [Z0]) (t := parts.length - (j + 1)) (by omega)
  have h1 := fit_c hok hft j hj
  have h2 := fit_s hok (j + 1) (by omega)
  rw [e]
  unfold putB
  by_cases hp : parts.getD j [] = []
  · rw [if_pos (by simp only [Wr, if_true]; exact hp), show pN parts j = [] from hp, spl_nil]
  · rw [if_neg (by simp only [Wr, if_true]; exact hp)]
    have e2 : padTo (DB size parts (j + 1)) (cN size parts j + (pN parts j).length) = DB size parts (j + 1) := by
      unfold padTo
      rw [show cN size parts j + (pN parts j).length - (DB size parts (j + 1)).length = 0 by unfold DB; omega]
      simp
    simp only [Wr, if_true]
    exact congrArg (fun z => spl z (cN size parts j) (pN parts j)) e2
theorem DB_end (hft : ∀ k, k < parts.length → fits size parts k) : DB size parts 0 = togB size parts parts.length := by
  unfold DB
  rw [Nat.sub_zero, dsc_all (fit_c hok hft) (fit_s hok) (by simp [Z0]), asc_togB]
theorem DB_len (hft : ∀ k, k < parts.length → fits size parts k) (j : Nat) : (DB size parts j).length ≤ 400 := by
  have h3 := cut_in hok
  have hl := dsc_len (fit_c hok hft) (fit_s hok) (B := Z0 size) (by simp [Z0]) (t := parts.length - j) (by omega)
  unfold DB; omega
theorem tw_begin {B : List UInt8} {m : Nat} (hm : m < parts.length) : beginF (TF size parts B ((m + 1 : Nat) : Int) m (fun _ => false)) (cutA size parts.length m) (cutA size parts.length (m + 1)) true = (TF size parts B ((m + 1 + 1 : Nat) : Int) (m + 1) (fun _ => false), ((m + 1 : Nat) : Int), 0) :=
  tf_begin hok hm (by omega)
theorem tw_write {B : List UInt8} {nx : Int} {m : Nat} {d : Nat → Bool} {i : Nat} (hi : i < m) (hd : d i = false) (hf : fits size parts i) : writeF (TF size parts B nx m d) ((i + 1 : Nat) : Int) (parts.getD i []) = (TF size parts B nx m (setd d i), 0) :=
  tf_write hok hi hd hf
theorem tw_close (hft : ∀ k, k < parts.length → fits size parts k) {nx : Int} {m : Nat} (hm : m < parts.length) : closeF (TF size parts (DB size parts (m + 1)) nx (m + 1) (fun _ => true)) ((m + 1 : Nat) : Int) = (TF size parts (DB size parts m) nx m (fun _ => true), 0) := by
  have h := tf_close hok (B := DB size parts (m + 1)) (nx := nx) (m := m) (d := fun _ => true)
  rw [DB_step hok hft hm] at h
  exact h
end
theorem set_setd {ds : List Bool} {j : Nat} (hj : j < ds.length) : setd (fun i => ds.getD i false) j = fun i => (ds.set j true).getD i false := by
  funext i
  unfold setd
  simp only [List.getD_eq_getElem?_getD]
  rw [List.getElem?_set]
  by_cases e : i = j
  · subst e; rw [if_pos rfl, if_pos rfl, if_pos hj]; rfl
  · rw [if_neg e, if_neg (Ne.symm e)]
theorem numsT_len (m : Nat) : (numsT m).length = m := by simp [numsT]
theorem numsT_get {m i : Nat} (h : i < m) : (numsT m)[i]? = some (((i + 1 : Nat) : Int)) := by
  unfold numsT; rw [List.getElem?_map, List.getElem?_range h]; rfl
theorem numsT_succ (m : Nat) : numsT (m + 1) = numsT m ++ [((m + 1 : Nat) : Int)] := by
  unfold numsT; rw [List.range_succ, List.map_append]; rfl
theorem togV_zero {size : Int} {parts : List (List UInt8)} (h : (togV size parts).2 = 0) : ¬ badC size parts.length ∧ (∀ k, k < parts.length → fits size parts k) ∧ (togV size parts).1 = togB size parts parts.length := by
  unfold togV at h ⊢
  split at h
  · cases h
  · rename_i hb
    rw [if_neg hb]
    split at h
    · rename_i hf
      rw [if_pos hf]; exact ⟨hb, allFit_iff.1 hf, rfl⟩
    · cases h
def boE : Enc Bool := ⟨4, 1, fun b => [.bool b], fun _ => rfl, fun s v h => by
  simp only [List.mem_cons, List.not_mem_nil, or_false] at h; rcases h with rfl; rfl⟩
end Go.Proofs.Ytgbckamaenapeaa

/- The text HPut. -/
/-! The document's way to put what was written into a file: byte by byte. No program in sight. -/
set_option linter.unusedVariables false
set_option linter.unusedSimpArgs false
namespace Go.Proofs.Ytgbckamaenapeaa
open Go Go.KK Hf
theorem pad_get {xs : List UInt8} {n j : Nat} : (padTo xs n)[j]? = if j < xs.length then xs[j]? else if j < n then some 0 else none := by
  unfold padTo
  rw [List.getElem?_append]
  split
  · rfl
  · rw [List.getElem?_replicate]
    by_cases h : j < n
    · rw [if_pos (by omega), if_pos h]
    · rw [if_neg (by omega), if_neg h]
def pbk (bs : List UInt8) (c : Ch) (k : Nat) : List UInt8 := if k = 0 then bs else spl (padTo bs (c.st.toNat + k)) c.st.toNat (c.pend.take k)
theorem pbk_len {bs : List UInt8} {c : Ch} {k : Nat} (hk : k ≤ c.pend.length) : (pbk bs c k).length = if k = 0 then bs.length else max bs.length (c.st.toNat + k) := by
  unfold pbk
  split
  · rfl
  · have hl := pad_len bs (c.st.toNat + k)
    rw [spl_len (by rw [List.length_take]; omega), hl]
theorem pbk_get {bs : List UInt8} {c : Ch} {k : Nat} (hk : k ≤ c.pend.length) (j : Nat) : (pbk bs c k)[j]? = if c.st.toNat ≤ j ∧ j < c.st.toNat + k then c.pend[j - c.st.toNat]? else if j < bs.length then bs[j]? else if 0 < k ∧ j < c.st.toNat + k then some 0 else none := by
  unfold pbk
  by_cases h0 : k = 0
  · rw [if_pos h0, if_neg (by omega)]
    by_cases hj : j < bs.length
    · rw [if_pos hj]
    · rw [if_neg hj, if_neg (by omega), List.getElem?_eq_none (by omega)]
  · have hl := pad_len bs (c.st.toNat + k)
    have ht : (c.pend.take k).length = k := by rw [List.length_take]; omega
    rw [if_neg h0, spl_get (by omega), ht, pad_get, List.getElem?_take]
    repeat' split
    all_goals first | rfl | (exfalso; omega)
theorem pbk_step {bs : List UInt8} {c : Ch} {k : Nat} {y : UInt8} (hk : k < c.pend.length) (hy : c.pend[k]? = some y) : (padTo (pbk bs c k) (c.st.toNat + k + 1)).set (c.st.toNat + k) y = pbk bs c (k + 1) := by
  have hl := pbk_len (bs := bs) (c := c) (k := k) (by omega)
  have hpl := pad_len (pbk bs c k) (c.st.toNat + k + 1)
  apply List.ext_getElem?
  intro j
  rw [List.getElem?_set, pbk_get (by omega)]
  by_cases he : c.st.toNat + k = j
  · rw [if_pos he, if_pos (show c.st.toNat + k < _ by omega), if_pos (show c.st.toNat ≤ j ∧ j < c.st.toNat + (k + 1) by omega), show j - c.st.toNat = k by omega, hy]
  · rw [if_neg he, pad_get, pbk_get (by omega)]
    rcases Nat.eq_zero_or_pos k with h0 | h0
    · rw [if_pos h0] at hl
      repeat' split
      all_goals first | rfl | (exfalso; omega)
    · rw [if_neg (by omega)] at hl
      repeat' split
      all_goals first | rfl | (exfalso; omega)
theorem pbk_all {bs : List UInt8} {c : Ch} : pbk bs c c.pend.length = putB bs c := by
  unfold pbk putB
  by_cases h : c.pend = []
  · rw [if_pos h, if_pos (by rw [h]; rfl)]
  · rw [if_neg h, if_neg (fun e => h (List.eq_nil_of_length_eq_zero e)), List.take_length]
theorem pad_more {xs : List UInt8} {n : Nat} (h : xs.length ≤ n) : padTo xs n ++ [0] = padTo xs (n + 1) := by
  unfold padTo
  rw [List.append_assoc, show n + 1 - xs.length = n - xs.length + 1 by omega, List.replicate_succ']
theorem pad_no {xs : List UInt8} {n : Nat} (h : n ≤ xs.length) : padTo xs n = xs := by
  unfold padTo; rw [show n - xs.length = 0 by omega]; simp
theorem putF_eq {F : Fl} {i : Nat} (gc : GoodC (ch F i)) (hw : (ch F i).wr = true) : putF F i = ⟨putB F.bytes (ch F i), F.next, F.opens.set i { ch F i with pend := [], st := (ch F i).at' }⟩ := by
  unfold putF putC
  split
  · rename_i hp
    have h1 := (gc.w1 hw).2
    rw [hp] at h1
    congr 2
    cases hc : ch F i with
    | mk a b c d e f g h => rw [hc] at hp h1; simp only at hp h1 ⊢; simp [hp]; simpa using h1.symm
  · rfl
end Go.Proofs.Ytgbckamaenapeaa
