/-
  A part of the proof of the claim that this folder bears.
-/
import Derived.Test.YtgbckamaenapeaaPAF
/- The text HRf2. -/
set_option linter.unusedVariables false
set_option linter.unusedSimpArgs false
set_option maxRecDepth 10000
namespace Go.Proofs.Ytgbckamaenapeaa
open Go Go.KK Hf

theorem rMark_no {L : List Asn} {p : Nat} {F : Fl} {n : Int} {k : Nat} (g : Hf.Good F k) (hk : k ≤ 100000) (hx : ix F n = none) :
    CallS Try.prog 49 [.pointer (some ⟨p, 0, none⟩), .int .i64 n].toArray (RA p F :: L) (fun v M => v = .int .i64 (markF F n).2 ∧ M = RA p (markF F n).1 :: L) := by
  refine CallS.ent ?_
  refine CallS.enter Try.func49 rfl rfl rfl rfl rfl ?_
  refine J.seq rfl ?_
  refine RA_open fun ab cb ao co rs hr => ?_
  refine J.region rfl ?_
  refine JO.pur rfl rfl rfl (Pur.assign rfl) ?_
  refine JO.nil ?_
  refine J.seq rfl ?_
  refine J.region rfl ?_
  refine JO.pur rfl rfl rfl (Pur.move rfl) ?_
  refine JO.pur rfl rfl rfl (Pur.move rfl) ?_
  refine JO.effR rfl rfl rfl (Eff.call rfl (rfind_no hr (Nat.le_trans g.ol hk) hx)) ?_
  refine JO.pur rfl rfl rfl (Pur.assign rfl) ?_
  refine JO.nil ?_
  refine J.seq rfl ?_
  refine J.seq rfl ?_
  refine J.region rfl ?_
  refine JO.pur rfl rfl rfl (Pur.move rfl) ?_
  refine JO.pur rfl rfl rfl (Pur.lss rfl rfl) ?_
  refine JO.setv (u' := .bool true) 10 rfl (congrArg Value.bool (rfl)) ?_
  refine JO.nil ?_
  refine J.condT rfl rfl ?_
  refine J.seq rfl ?_
  refine J.region rfl ?_
  refine JO.pur rfl rfl rfl (Pur.assign rfl) ?_
  refine JO.nil ?_
  refine J.ret rfl rfl ?_
  have hv : markF F n = (F, 5) := by unfold markF; rw [hx]
  refine ⟨_, _, ⟨rfl, rfl⟩, by rw [hv]; rfl, fun h s => ?_⟩
  rw [hv]
  exact RA_mk (ab := ab) (cb := cb) (ao := ao) (co := co) hr (SubC.out h s)

theorem rMark_yes {L : List Asn} {p : Nat} {F : Fl} {n : Int} {i : Nat} {k : Nat} (g : Hf.Good F k) (hk : k ≤ 100000) (hx : ix F n = some i) :
    CallS Try.prog 49 [.pointer (some ⟨p, 0, none⟩), .int .i64 n].toArray (RA p F :: L) (fun v M => v = .int .i64 (markF F n).2 ∧ M = RA p (markF F n).1 :: L) := by
  refine CallS.ent ?_
  refine CallS.enter Try.func49 rfl rfl rfl rfl rfl ?_
  refine J.seq rfl ?_
  refine RA_open fun ab cb ao co rs hr => ?_
  obtain ⟨hil, hch, hnum⟩ := ix_some hx
  obtain ⟨r, hrg⟩ : ∃ r, rs[i]? = some r := ⟨_, List.getElem?_eq_getElem (by omega)⟩
  have hrl := rcL_len hr
  have hrc := rcL_get hrg hch
  have gc := g.gc _ (ch_mem hx)
  have gmk := g.mks _ (ch_mem hx)
  have gb := g.b4
  have gf0 := gc.f0
  have gft := gc.ft
  have gt4 := gc.t4
  have gfa := gc.fa
  have ga4 := gc.at4
  refine J.region rfl ?_
  refine JO.pur rfl rfl rfl (Pur.assign rfl) ?_
  refine JO.nil ?_
  refine J.seq rfl ?_
  refine J.region rfl ?_
  refine JO.pur rfl rfl rfl (Pur.move rfl) ?_
  refine JO.pur rfl rfl rfl (Pur.move rfl) ?_
  refine JO.effR rfl rfl rfl (Eff.call rfl (rfind_yes hr (Nat.le_trans g.ol hk) hx)) ?_
  refine JO.pur rfl rfl rfl (Pur.assign rfl) ?_
  refine JO.nil ?_
  refine J.seq rfl ?_
  refine J.seq rfl ?_
  refine J.region rfl ?_
  refine JO.pur rfl rfl rfl (Pur.move rfl) ?_
  refine JO.pur rfl rfl rfl (Pur.lss rfl rfl) ?_
  refine JO.setv (u' := .bool false) 10 rfl (congrArg Value.bool (by simp)) ?_
  refine JO.nil ?_
  refine J.condF rfl rfl ?_
  refine J.skip rfl ?_
  refine J.seq rfl ?_
  refine J.fact (fun h s => by obtain s2 := rm_take (rs := rs) (cs := F.opens) (i := i) hrg hch s; exact SlH.nil (a := r.am) (cap := r.cm) (E := intE) (xs := (ch F i).marks) s2) fun hnl => ?_
  have hnl2 : r.am = none → (ch F i).marks.length = 0 ∧ r.cm = 0 := fun e => by obtain ⟨e1, e2⟩ := hnl e; exact ⟨by rw [e1]; rfl, e2⟩
  refine J.imp (fun h s => rm_take (rs := rs) (cs := F.opens) (i := i) hrg hch s) ?_
  refine J.mask0 (n := 28) [27] rfl Try.mixed rfl (by kernel_rfl) ?_
  refine JM.take 0 (fun _ h => h) rfl (by kernel_rfl) rfl rfl rfl (m' := 1) rfl (Pur.move rfl) ?_
  refine JM.take 1 (fun _ h => h) rfl (by kernel_rfl) rfl rfl rfl (m' := 3) rfl (Pur.nilCheck rfl) ?_
  refine JM.take 2 (fun _ h => h) rfl (by kernel_rfl) rfl rfl rfl (m' := 7) rfl (Pur.fieldAddr rfl) ?_
  refine JM.take 3 (fun _ h => h) rfl (by kernel_rfl) rfl rfl rfl (m' := 15) rfl (Pur.load rfl (CellIn.blk rfl)) ?_
  refine JM.take 4 (fun _ h => h) rfl (by kernel_rfl) rfl rfl rfl (m' := 31) rfl (Pur.move rfl) ?_
  refine JM.take 6 (fun _ h => h) rfl (by kernel_rfl) rfl rfl rfl (m' := 95) rfl (Pur.move rfl) ?_
  refine JM.take 7 (fun _ h => h) rfl (by kernel_rfl) rfl rfl rfl (m' := 223) rfl (Pur.nilCheck rfl) ?_
  refine JM.take 8 (fun _ h => h) rfl (by kernel_rfl) rfl rfl rfl (m' := 479) rfl (Pur.fieldAddr rfl) ?_
  refine JM.take 9 (fun _ h => h) rfl (by kernel_rfl) rfl rfl rfl (m' := 991) rfl (Pur.load rfl (CellIn.blk rfl)) ?_
  refine JM.take 10 (fun _ h => h) rfl (by kernel_rfl) rfl rfl rfl (m' := 2015) rfl (Pur.move rfl) ?_
  refine JM.take 11 (fun _ h => h) rfl (by kernel_rfl) rfl rfl rfl (m' := 4063) rfl (Pur.idx rfl rfl rfl (by first | rfl | (simp; done) | omega) rfl (by omega)) ?_
  refine JM.take 12 (fun _ h => h) rfl (by kernel_rfl) rfl rfl rfl (m' := 8159) rfl (Pur.fieldAddr rfl) ?_
  refine JM.take 13 (fun _ h => h) rfl (by kernel_rfl) rfl rfl rfl (m' := 16351) rfl (Pur.load rfl (CellIn.el rfl hrc rfl)) ?_
  refine JM.setv (u' := .slice r.am (ch F i).marks.length r.cm) 24 rfl rfl ?_
  refine JM.take 15 (fun _ h => h) rfl (by kernel_rfl) rfl rfl rfl (m' := 49119) rfl (Pur.move rfl) ?_
  refine JM.take 16 (fun _ h => h) rfl (by kernel_rfl) rfl rfl rfl (m' := 114655) rfl (Pur.nilCheck rfl) ?_
  refine JM.take 17 (fun _ h => h) rfl (by kernel_rfl) rfl rfl rfl (m' := 245727) rfl (Pur.fieldAddr rfl) ?_
  refine JM.take 18 (fun _ h => h) rfl (by kernel_rfl) rfl rfl rfl (m' := 507871) rfl (Pur.load rfl (CellIn.blk rfl)) ?_
  refine JM.take 19 (fun _ h => h) rfl (by kernel_rfl) rfl rfl rfl (m' := 1032159) rfl (Pur.move rfl) ?_
  refine JM.take 20 (fun _ h => h) rfl (by kernel_rfl) rfl rfl rfl (m' := 2080735) rfl (Pur.idx rfl rfl rfl (by first | rfl | (simp; done) | omega) rfl (by omega)) ?_
  refine JM.take 21 (fun _ h => h) rfl (by kernel_rfl) rfl rfl rfl (m' := 4177887) rfl (Pur.fieldAddr rfl) ?_
  refine JM.take 22 (fun _ h => h) rfl (by kernel_rfl) rfl rfl rfl (m' := 8372191) rfl (Pur.load rfl (CellIn.el rfl hrc rfl)) ?_
  refine JM.setv (u' := .int .i64 (ch F i).at') 33 rfl rfl ?_
  refine JM.many (rs := [5, 23]) (by kernel_rfl) rfl (fun i hi => ?_)
  simp only [List.mem_cons, List.not_mem_nil, or_false] at hi
  rcases hi with rfl | rfl
  · skip
    refine JMi.eff rfl rfl rfl rfl (m' := 8372223) rfl (Eff.buildSlice intE ([] : List Int) rfl rfl rfl rfl rfl rfl rfl) ?_
    rintro _ _ ⟨b16, rfl, -, rfl⟩
    refine ⟨.inr (fun _ h => h.tail), ?_⟩
    refine JM.many (rs := [14, 23]) (by kernel_rfl) rfl (fun i hi => ?_)
    simp only [List.mem_cons, List.not_mem_nil, or_false] at hi
    rcases hi with rfl | rfl
    · skip
      refine JMi.eff rfl rfl rfl rfl (m' := 8388607) rfl (Eff.append rfl rfl rfl rfl (by first | rfl | omega | (simp; done) | (simp; omega)) (by first | rfl | omega | (simp; done) | (simp; omega)) (by decide) (by simp; omega) (by simp; omega) hnl2) ?_
      rintro _ _ ⟨a25, c25, rfl, rfl⟩
      refine ⟨.inr (fun _ h => h.tail), ?_⟩
      refine JM.one (i := 23) (by kernel_rfl) ?_
      refine JMi.eff rfl rfl rfl rfl (m' := 16777215) rfl (Eff.buildSlice intE [(ch F i).at'] rfl rfl rfl rfl rfl rfl rfl) ?_
      rintro _ _ ⟨b34, rfl, -, rfl⟩
      refine ⟨.inr (fun _ h => h.tail.tail), ?_⟩
      refine JM.one (i := 24) (by kernel_rfl) ?_
      refine JMi.eff rfl rfl rfl rfl (m' := 33554431) rfl (Eff.append rfl rfl rfl rfl (by first | rfl | omega | (simp; done) | (simp; omega)) (by first | rfl | omega | (simp; done) | (simp; omega)) (by decide) (by simp; omega) (by simp; omega) (fun h => by cases h)) ?_
      rintro _ _ ⟨a35, c35, rfl, rfl⟩
      refine ⟨.inr (fun _ h => h.tail.tail), ?_⟩
      refine JM.take 25 (fun _ h => h.tail.tail) rfl (by kernel_rfl) rfl rfl rfl (m' := 67108863) rfl (Pur.idx rfl rfl rfl (by first | rfl | (simp; done) | omega) rfl (by omega)) ?_
      refine JM.take 26 (fun _ h => h.tail.tail) rfl (by kernel_rfl) rfl rfl rfl (m' := 134217727) rfl (Pur.fieldAddr rfl) ?_
      refine JM.one (i := 27) (by kernel_rfl) ?_
      refine JMi.effN rfl rfl rfl (m' := 268435455) rfl (Eff.storeS (z' := (⟨(ch F i).num, (ch F i).fr, (ch F i).to, (ch F i).at', (ch F i).wr, (ch F i).st, r.ap, (ch F i).pend.length, r.cp, a35, (([] ++ (ch F i).marks).length + [(ch F i).at'].length), c35⟩ : Rc)) rfl rfl rfl rfl hrc (.tail (.tail (.tail (.tail (.tail (.tail (.tail .head)))))))) ?_
      rintro _ _ ⟨rfl, rfl⟩
      refine ⟨.inl (by simp), ?_⟩
      refine JM.done rfl ?_
      refine J.seq rfl ?_
      refine J.region rfl ?_
      refine JO.pur rfl rfl rfl (Pur.assign rfl) ?_
      refine JO.nil ?_
      refine J.ret rfl rfl ?_
      have hv : markF F n = (upd F i { ch F i with marks := (ch F i).marks ++ [(ch F i).at'] }, 0) := by unfold markF; rw [hx]
      refine ⟨_, _, ⟨rfl, rfl⟩, by rw [hv]; rfl, fun h s => ?_⟩
      rw [hv]
      refine RA_shut (L := L) (p := p) (bs := F.bytes) (nx := F.next) (F := F) (c' := { ch F i with marks := (ch F i).marks ++ [(ch F i).at'] }) (ab := ab) (cb := cb) (ao := ao) (co := co) (ap := r.ap) (cp := r.cp) (am := a35) (cm := c35) hr hrg hch ?_
      try simp only [rcOf, List.length_append, List.length_cons, List.length_nil, List.nil_append] at s ⊢
      exact SubC.out h s
    · skip
      refine JMi.eff rfl rfl rfl rfl (m' := 16760831) rfl (Eff.buildSlice intE [(ch F i).at'] rfl rfl rfl rfl rfl rfl rfl) ?_
      rintro _ _ ⟨b34, rfl, -, rfl⟩
      refine ⟨.inr (fun _ h => h.tail.tail), ?_⟩
      refine JM.one (i := 14) (by kernel_rfl) ?_
      refine JMi.eff rfl rfl rfl rfl (m' := 16777215) rfl (Eff.append rfl rfl rfl rfl (by first | rfl | omega | (simp; done) | (simp; omega)) (by first | rfl | omega | (simp; done) | (simp; omega)) (by decide) (by simp; omega) (by simp; omega) hnl2) ?_
      rintro _ _ ⟨a25, c25, rfl, rfl⟩
      refine ⟨.inr (fun _ h => h.tail.tail), ?_⟩
      refine JM.one (i := 24) (by kernel_rfl) ?_
      refine JMi.eff rfl rfl rfl rfl (m' := 33554431) rfl (Eff.append rfl rfl rfl rfl (by first | rfl | omega | (simp; done) | (simp; omega)) (by first | rfl | omega | (simp; done) | (simp; omega)) (by decide) (by simp; omega) (by simp; omega) (fun h => by cases h)) ?_
      rintro _ _ ⟨a35, c35, rfl, rfl⟩
      refine ⟨.inr (fun _ h => h.tail.tail), ?_⟩
      refine JM.take 25 (fun _ h => h.tail.tail) rfl (by kernel_rfl) rfl rfl rfl (m' := 67108863) rfl (Pur.idx rfl rfl rfl (by first | rfl | (simp; done) | omega) rfl (by omega)) ?_
      refine JM.take 26 (fun _ h => h.tail.tail) rfl (by kernel_rfl) rfl rfl rfl (m' := 134217727) rfl (Pur.fieldAddr rfl) ?_
      refine JM.one (i := 27) (by kernel_rfl) ?_
      refine JMi.effN rfl rfl rfl (m' := 268435455) rfl (Eff.storeS (z' := (⟨(ch F i).num, (ch F i).fr, (ch F i).to, (ch F i).at', (ch F i).wr, (ch F i).st, r.ap, (ch F i).pend.length, r.cp, a35, (([] ++ (ch F i).marks).length + [(ch F i).at'].length), c35⟩ : Rc)) rfl rfl rfl rfl hrc (.tail (.tail (.tail (.tail (.tail (.tail (.tail .head)))))))) ?_
      rintro _ _ ⟨rfl, rfl⟩
      refine ⟨.inl (by simp), ?_⟩
      refine JM.done rfl ?_
      refine J.seq rfl ?_
      refine J.region rfl ?_
      refine JO.pur rfl rfl rfl (Pur.assign rfl) ?_
      refine JO.nil ?_
      refine J.ret rfl rfl ?_
      have hv : markF F n = (upd F i { ch F i with marks := (ch F i).marks ++ [(ch F i).at'] }, 0) := by unfold markF; rw [hx]
      refine ⟨_, _, ⟨rfl, rfl⟩, by rw [hv]; rfl, fun h s => ?_⟩
      rw [hv]
      refine RA_shut (L := L) (p := p) (bs := F.bytes) (nx := F.next) (F := F) (c' := { ch F i with marks := (ch F i).marks ++ [(ch F i).at'] }) (ab := ab) (cb := cb) (ao := ao) (co := co) (ap := r.ap) (cp := r.cp) (am := a35) (cm := c35) hr hrg hch ?_
      try simp only [rcOf, List.length_append, List.length_cons, List.length_nil, List.nil_append] at s ⊢
      exact SubC.out h s
  · skip
    refine JMi.eff rfl rfl rfl rfl (m' := 16760799) rfl (Eff.buildSlice intE [(ch F i).at'] rfl rfl rfl rfl rfl rfl rfl) ?_
    rintro _ _ ⟨b34, rfl, -, rfl⟩
    refine ⟨.inr (fun _ h => h.tail), ?_⟩
    refine JM.one (i := 5) (by kernel_rfl) ?_
    refine JMi.eff rfl rfl rfl rfl (m' := 16760831) rfl (Eff.buildSlice intE ([] : List Int) rfl rfl rfl rfl rfl rfl rfl) ?_
    rintro _ _ ⟨b16, rfl, -, rfl⟩
    refine ⟨.inr (fun _ h => h.tail.tail), ?_⟩
    refine JM.one (i := 14) (by kernel_rfl) ?_
    refine JMi.eff rfl rfl rfl rfl (m' := 16777215) rfl (Eff.append rfl rfl rfl rfl (by first | rfl | omega | (simp; done) | (simp; omega)) (by first | rfl | omega | (simp; done) | (simp; omega)) (by decide) (by simp; omega) (by simp; omega) hnl2) ?_
    rintro _ _ ⟨a25, c25, rfl, rfl⟩
    refine ⟨.inr (fun _ h => h.tail.tail), ?_⟩
    refine JM.one (i := 24) (by kernel_rfl) ?_
    refine JMi.eff rfl rfl rfl rfl (m' := 33554431) rfl (Eff.append rfl rfl rfl rfl (by first | rfl | omega | (simp; done) | (simp; omega)) (by first | rfl | omega | (simp; done) | (simp; omega)) (by decide) (by simp; omega) (by simp; omega) (fun h => by cases h)) ?_
    rintro _ _ ⟨a35, c35, rfl, rfl⟩
    refine ⟨.inr (fun _ h => h.tail.tail), ?_⟩
    refine JM.take 25 (fun _ h => h.tail.tail) rfl (by kernel_rfl) rfl rfl rfl (m' := 67108863) rfl (Pur.idx rfl rfl rfl (by first | rfl | (simp; done) | omega) rfl (by omega)) ?_
    refine JM.take 26 (fun _ h => h.tail.tail) rfl (by kernel_rfl) rfl rfl rfl (m' := 134217727) rfl (Pur.fieldAddr rfl) ?_
    refine JM.one (i := 27) (by kernel_rfl) ?_
    refine JMi.effN rfl rfl rfl (m' := 268435455) rfl (Eff.storeS (z' := (⟨(ch F i).num, (ch F i).fr, (ch F i).to, (ch F i).at', (ch F i).wr, (ch F i).st, r.ap, (ch F i).pend.length, r.cp, a35, (([] ++ (ch F i).marks).length + [(ch F i).at'].length), c35⟩ : Rc)) rfl rfl rfl rfl hrc (.tail (.tail (.tail (.tail (.tail (.tail (.tail .head)))))))) ?_
    rintro _ _ ⟨rfl, rfl⟩
    refine ⟨.inl (by simp), ?_⟩
    refine JM.done rfl ?_
    refine J.seq rfl ?_
    refine J.region rfl ?_
    refine JO.pur rfl rfl rfl (Pur.assign rfl) ?_
    refine JO.nil ?_
    refine J.ret rfl rfl ?_
    have hv : markF F n = (upd F i { ch F i with marks := (ch F i).marks ++ [(ch F i).at'] }, 0) := by unfold markF; rw [hx]
    refine ⟨_, _, ⟨rfl, rfl⟩, by rw [hv]; rfl, fun h s => ?_⟩
    rw [hv]
    refine RA_shut (L := L) (p := p) (bs := F.bytes) (nx := F.next) (F := F) (c' := { ch F i with marks := (ch F i).marks ++ [(ch F i).at'] }) (ab := ab) (cb := cb) (ao := ao) (co := co) (ap := r.ap) (cp := r.cp) (am := a35) (cm := c35) hr hrg hch ?_
    try simp only [rcOf, List.length_append, List.length_cons, List.length_nil, List.nil_append] at s ⊢
    exact SubC.out h s

theorem rMark_ok {L : List Asn} {p : Nat} {F : Fl} {n : Int} {k : Nat} (g : Hf.Good F k) (hk : k ≤ 100000) : CallS Try.prog 49 [.pointer (some ⟨p, 0, none⟩), .int .i64 n].toArray (RA p F :: L) (fun v M => v = .int .i64 (markF F n).2 ∧ M = RA p (markF F n).1 :: L) := by
  cases hx : ix F n with
  | none => exact rMark_no  g hk hx
  | some i => exact rMark_yes  g hk hx
theorem rWrite_no {L : List Asn} {p : Nat} {F : Fl} {n : Int} {b : Option Addr} {m cq : Nat} {ys : List UInt8} [SlIn byE L b ys] (hm : m = ys.length) (hys : ys.length ≤ 9223372036854775807) (hnil : b = none → m = 0 ∧ cq = 0) {k : Nat} (g : Hf.Good F k) (hk : k ≤ 100000) (hx : ix F n = none) :
    CallS Try.prog 48 [.pointer (some ⟨p, 0, none⟩), .int .i64 n, .slice b m cq].toArray (RA p F :: L) (fun v M => v = .int .i64 (writeF F n ys).2 ∧ M = RA p (writeF F n ys).1 :: L) := by
  refine CallS.ent ?_
  refine CallS.enter Try.func48 rfl rfl rfl rfl rfl ?_
  refine J.seq rfl ?_
  refine RA_open fun ab cb ao co rs hr => ?_
  refine J.region rfl ?_
  refine JO.pur rfl rfl rfl (Pur.assign rfl) ?_
  refine JO.nil ?_
  refine J.seq rfl ?_
  refine J.region rfl ?_
  refine JO.pur rfl rfl rfl (Pur.move rfl) ?_
  refine JO.pur rfl rfl rfl (Pur.move rfl) ?_
  refine JO.effR rfl rfl rfl (Eff.call rfl (rfind_no hr (Nat.le_trans g.ol hk) hx)) ?_
  refine JO.pur rfl rfl rfl (Pur.assign rfl) ?_
  refine JO.nil ?_
  refine J.seq rfl ?_
  refine J.block rfl ?_
  refine J.seq rfl ?_
  refine J.region rfl ?_
  refine JO.pur rfl rfl rfl (Pur.move rfl) ?_
  refine JO.pur rfl rfl rfl (Pur.lss rfl rfl) ?_
  refine JO.setv (u' := .bool true) 13 rfl (congrArg Value.bool (rfl)) ?_
  refine JO.pur rfl rfl rfl (Pur.assign rfl) ?_
  refine JO.nil ?_
  refine J.condT rfl rfl ?_
  refine J.seq rfl ?_
  refine J.region rfl ?_
  refine JO.pur rfl rfl rfl (Pur.assign rfl) ?_
  refine JO.nil ?_
  refine J.ret rfl rfl ?_
  have hv : writeF F n ys = (F, 5) := by unfold writeF; rw [hx]
  refine ⟨_, _, ⟨rfl, rfl⟩, by rw [hv]; rfl, fun h s => ?_⟩
  rw [hv]
  exact RA_mk (ab := ab) (cb := cb) (ao := ao) (co := co) hr (SubC.out h s)

theorem rWrite_yes {L : List Asn} {p : Nat} {F : Fl} {n : Int} {b : Option Addr} {m cq : Nat} {ys : List UInt8} [SlIn byE L b ys] (hm : m = ys.length) (hys : ys.length ≤ 9223372036854775807) (hnil : b = none → m = 0 ∧ cq = 0) {i : Nat} {k : Nat} (g : Hf.Good F k) (hk : k ≤ 100000) (hx : ix F n = some i) :
    CallS Try.prog 48 [.pointer (some ⟨p, 0, none⟩), .int .i64 n, .slice b m cq].toArray (RA p F :: L) (fun v M => v = .int .i64 (writeF F n ys).2 ∧ M = RA p (writeF F n ys).1 :: L) := by
  subst hm
  refine CallS.ent ?_
  refine CallS.enter Try.func48 rfl rfl rfl rfl rfl ?_
  refine J.seq rfl ?_
  refine RA_open fun ab cb ao co rs hr => ?_
  obtain ⟨hil, hch, hnum⟩ := ix_some hx
  obtain ⟨r, hrg⟩ : ∃ r, rs[i]? = some r := ⟨_, List.getElem?_eq_getElem (by omega)⟩
  have hrl := rcL_len hr
  have hrc := rcL_get hrg hch
  have gc := g.gc _ (ch_mem hx)
  have gmk := g.mks _ (ch_mem hx)
  have gb := g.b4
  have gf0 := gc.f0
  have gft := gc.ft
  have gt4 := gc.t4
  have gfa := gc.fa
  have ga4 := gc.at4
  refine J.region rfl ?_
  refine JO.pur rfl rfl rfl (Pur.assign rfl) ?_
  refine JO.nil ?_
  refine J.seq rfl ?_
  refine J.region rfl ?_
  refine JO.pur rfl rfl rfl (Pur.move rfl) ?_
  refine JO.pur rfl rfl rfl (Pur.move rfl) ?_
  refine JO.effR rfl rfl rfl (Eff.call rfl (rfind_yes hr (Nat.le_trans g.ol hk) hx)) ?_
  refine JO.pur rfl rfl rfl (Pur.assign rfl) ?_
  refine JO.nil ?_
  refine J.seq rfl ?_
  refine J.block rfl ?_
  refine J.seq rfl ?_
  refine J.region rfl ?_
  refine JO.pur rfl rfl rfl (Pur.move rfl) ?_
  refine JO.pur rfl rfl rfl (Pur.lss rfl rfl) ?_
  refine JO.setv (u' := .bool false) 13 rfl (congrArg Value.bool (by simp)) ?_
  refine JO.pur rfl rfl rfl (Pur.assign rfl) ?_
  refine JO.nil ?_
  refine J.condF rfl rfl ?_
  refine J.seq rfl ?_
  refine J.quiet rfl Try.mixed (by kernel_rfl) ?_
  refine JQ.pur rfl rfl rfl (Pur.move rfl) ?_
  refine JQ.pur rfl rfl rfl (Pur.nilCheck rfl) ?_
  refine JQ.pur rfl rfl rfl (Pur.fieldAddr rfl) ?_
  refine JQ.pur rfl rfl rfl (Pur.load rfl (CellIn.blk rfl)) ?_
  refine JQ.pur rfl rfl rfl (Pur.move rfl) ?_
  refine JQ.pur rfl rfl rfl (Pur.idx rfl rfl rfl (by first | rfl | (simp; done) | omega | (rw [List.length_set, hrl])) rfl (by omega)) ?_
  refine JQ.pur rfl rfl rfl (Pur.fieldAddr rfl) ?_
  refine JQ.pur rfl rfl rfl (Pur.load rfl (CellIn.el rfl hrc rfl)) ?_
  refine JQ.setv (u' := .bool (ch F i).wr) 22 rfl rfl ?_
  refine JQ.pur rfl rfl rfl (Pur.not rfl) ?_
  refine JQ.pur rfl rfl rfl (Pur.move rfl) ?_
  refine JQ.splitB 24 rfl (fun h24 => ?_) (fun h24 => ?_)
  · try simp only [decide_eq_true_eq, decide_eq_false_iff_not, Bool.not_eq_true', Bool.not_eq_false', Bool.and_eq_true, Bool.or_eq_true, Bool.and_eq_false_iff, Bool.or_eq_false_iff, Option.isNone_some, Option.isSome_some, Option.isNone_none, Option.isSome_none, Int.not_lt, Int.not_le, beq_iff_eq, beq_eq_false_iff_ne, bne_iff_ne, ne_eq, Bool.not_not, Decidable.not_not] at h24
    have hw : (ch F i).wr = false := by simpa using h24
    refine JQ.no rfl rfl rfl ?_
    refine JQ.no rfl rfl rfl ?_
    refine JQ.no rfl rfl rfl ?_
    refine JQ.no rfl rfl rfl ?_
    refine JQ.no rfl rfl rfl ?_
    refine JQ.no rfl rfl rfl ?_
    refine JQ.no rfl rfl rfl ?_
    refine JQ.no rfl rfl rfl ?_
    refine JQ.no rfl rfl rfl ?_
    refine JQ.no rfl rfl rfl ?_
    refine JQ.no rfl rfl rfl ?_
    refine JQ.no rfl rfl rfl ?_
    refine JQ.no rfl rfl rfl ?_
    refine JQ.no rfl rfl rfl ?_
    refine JQ.no rfl rfl rfl ?_
    refine JQ.no rfl rfl rfl ?_
    refine JQ.no rfl rfl rfl ?_
    refine JQ.no rfl rfl rfl ?_
    refine JQ.no rfl rfl rfl ?_
    refine JQ.no rfl rfl rfl ?_
    refine JQ.pur rfl rfl rfl (Pur.pickT rfl rfl) ?_
    refine JQ.pur rfl rfl rfl (Pur.assign rfl) ?_
    refine JQ.nil ?_
    refine J.condT rfl rfl ?_
    refine J.seq rfl ?_
    refine J.region rfl ?_
    refine JO.pur rfl rfl rfl (Pur.assign rfl) ?_
    refine JO.nil ?_
    refine J.ret rfl rfl ?_
    have hv : writeF F n ys = (F, 230) := by unfold writeF; rw [hx]; dsimp only; rw [if_pos (.inl hw)]
    refine ⟨_, _, ⟨rfl, rfl⟩, by rw [hv]; rfl, fun h s => ?_⟩
    rw [hv]
    exact RA_mk (ab := ab) (cb := cb) (ao := ao) (co := co) hr (SubC.out h s)
  · try simp only [decide_eq_true_eq, decide_eq_false_iff_not, Bool.not_eq_true', Bool.not_eq_false', Bool.and_eq_true, Bool.or_eq_true, Bool.and_eq_false_iff, Bool.or_eq_false_iff, Option.isNone_some, Option.isSome_some, Option.isNone_none, Option.isSome_none, Int.not_lt, Int.not_le, beq_iff_eq, beq_eq_false_iff_ne, bne_iff_ne, ne_eq, Bool.not_not, Decidable.not_not] at h24
    have hw : (ch F i).wr = true := by simpa using h24
    refine JQ.pur rfl rfl rfl (Pur.move rfl) ?_
    refine JQ.pur rfl rfl rfl (Pur.len rfl) ?_
    refine JQ.pur rfl rfl rfl (Pur.move rfl) ?_
    refine JQ.pur rfl rfl rfl (Pur.nilCheck rfl) ?_
    refine JQ.pur rfl rfl rfl (Pur.fieldAddr rfl) ?_
    refine JQ.pur rfl rfl rfl (Pur.load rfl (CellIn.blk rfl)) ?_
    refine JQ.pur rfl rfl rfl (Pur.move rfl) ?_
    refine JQ.pur rfl rfl rfl (Pur.idx rfl rfl rfl (by first | rfl | (simp; done) | omega | (rw [List.length_set, hrl])) rfl (by omega)) ?_
    refine JQ.pur rfl rfl rfl (Pur.fieldAddr rfl) ?_
    refine JQ.pur rfl rfl rfl (Pur.load rfl (CellIn.el rfl hrc rfl)) ?_
    refine JQ.setv (u' := .int .i64 (ch F i).to) 34 rfl rfl ?_
    refine JQ.pur rfl rfl rfl (Pur.move rfl) ?_
    refine JQ.pur rfl rfl rfl (Pur.nilCheck rfl) ?_
    refine JQ.pur rfl rfl rfl (Pur.fieldAddr rfl) ?_
    refine JQ.pur rfl rfl rfl (Pur.load rfl (CellIn.blk rfl)) ?_
    refine JQ.pur rfl rfl rfl (Pur.move rfl) ?_
    refine JQ.pur rfl rfl rfl (Pur.idx rfl rfl rfl (by first | rfl | (simp; done) | omega | (rw [List.length_set, hrl])) rfl (by omega)) ?_
    refine JQ.pur rfl rfl rfl (Pur.fieldAddr rfl) ?_
    refine JQ.pur rfl rfl rfl (Pur.load rfl (CellIn.el rfl hrc rfl)) ?_
    refine JQ.setv (u' := (.int .i64 (ch F i).at')) 42 rfl rfl ?_
    refine JQ.pur rfl rfl rfl (Pur.sub rfl rfl (wr64 (by omega))) ?_
    refine JQ.pur rfl rfl rfl (Pur.gtr rfl rfl) ?_
    refine JQ.pur rfl rfl rfl (Pur.pickF rfl rfl) ?_
    refine JQ.pur rfl rfl rfl (Pur.assign rfl) ?_
    refine JQ.nil ?_
    refine J.splitB 14 rfl (fun h14 => ?_) (fun h14 => ?_)
    · try simp only [decide_eq_true_eq, decide_eq_false_iff_not, Bool.not_eq_true', Bool.not_eq_false', Bool.and_eq_true, Bool.or_eq_true, Bool.and_eq_false_iff, Bool.or_eq_false_iff, Option.isNone_some, Option.isSome_some, Option.isNone_none, Option.isSome_none, Int.not_lt, Int.not_le, beq_iff_eq, beq_eq_false_iff_ne, bne_iff_ne, ne_eq, Bool.not_not, Decidable.not_not] at h14
      refine J.condT rfl rfl ?_
      refine J.seq rfl ?_
      refine J.region rfl ?_
      refine JO.pur rfl rfl rfl (Pur.assign rfl) ?_
      refine JO.nil ?_
      refine J.ret rfl rfl ?_
      have hv : writeF F n ys = (F, 230) := by unfold writeF; rw [hx]; dsimp only; rw [if_pos (.inr (by omega))]
      refine ⟨_, _, ⟨rfl, rfl⟩, by rw [hv]; rfl, fun h s => ?_⟩
      rw [hv]
      exact RA_mk (ab := ab) (cb := cb) (ao := ao) (co := co) hr (SubC.out h s)
    · try simp only [decide_eq_true_eq, decide_eq_false_iff_not, Bool.not_eq_true', Bool.not_eq_false', Bool.and_eq_true, Bool.or_eq_true, Bool.and_eq_false_iff, Bool.or_eq_false_iff, Option.isNone_some, Option.isSome_some, Option.isNone_none, Option.isSome_none, Int.not_lt, Int.not_le, beq_iff_eq, beq_eq_false_iff_ne, bne_iff_ne, ne_eq, Bool.not_not, Decidable.not_not] at h14
      refine J.condF rfl rfl ?_
      refine J.skip rfl ?_
      refine J.inBlock ?_
      refine J.seq rfl ?_
      have hpl : (ch F i).pend.length ≤ 400 := by have := gc.w1 hw; omega
      refine J.fact (fun h s => by obtain s2 := rm_take (rs := rs) (cs := F.opens) (i := i) hrg hch s; exact SlH.nil (a := r.ap) (cap := r.cp) (E := byE) (xs := (ch F i).pend) s2) fun hnl => ?_
      have hnl2 : r.ap = none → (ch F i).pend.length = 0 ∧ r.cp = 0 := fun e => by obtain ⟨e1, e2⟩ := hnl e; exact ⟨by rw [e1]; rfl, e2⟩
      refine J.imp (fun h s => rm_take (rs := rs) (cs := F.opens) (i := i) hrg hch s) ?_
      refine J.mask0 (n := 20) [19] rfl Try.mixed rfl (by kernel_rfl) ?_
      refine JM.take 0 (fun _ h => h) rfl (by kernel_rfl) rfl rfl rfl (m' := 1) rfl (Pur.move rfl) ?_
      refine JM.take 1 (fun _ h => h) rfl (by kernel_rfl) rfl rfl rfl (m' := 3) rfl (Pur.nilCheck rfl) ?_
      refine JM.take 2 (fun _ h => h) rfl (by kernel_rfl) rfl rfl rfl (m' := 7) rfl (Pur.fieldAddr rfl) ?_
      refine JM.take 3 (fun _ h => h) rfl (by kernel_rfl) rfl rfl rfl (m' := 15) rfl (Pur.load rfl (CellIn.blk rfl)) ?_
      refine JM.take 4 (fun _ h => h) rfl (by kernel_rfl) rfl rfl rfl (m' := 31) rfl (Pur.move rfl) ?_
      refine JM.take 6 (fun _ h => h) rfl (by kernel_rfl) rfl rfl rfl (m' := 95) rfl (Pur.move rfl) ?_
      refine JM.take 7 (fun _ h => h) rfl (by kernel_rfl) rfl rfl rfl (m' := 223) rfl (Pur.nilCheck rfl) ?_
      refine JM.take 8 (fun _ h => h) rfl (by kernel_rfl) rfl rfl rfl (m' := 479) rfl (Pur.fieldAddr rfl) ?_
      refine JM.take 9 (fun _ h => h) rfl (by kernel_rfl) rfl rfl rfl (m' := 991) rfl (Pur.load rfl (CellIn.blk rfl)) ?_
      refine JM.take 10 (fun _ h => h) rfl (by kernel_rfl) rfl rfl rfl (m' := 2015) rfl (Pur.move rfl) ?_
      refine JM.take 11 (fun _ h => h) rfl (by kernel_rfl) rfl rfl rfl (m' := 4063) rfl (Pur.idx rfl rfl rfl (by first | rfl | (simp; done) | omega | (rw [List.length_set, hrl])) rfl (by omega)) ?_
      refine JM.take 12 (fun _ h => h) rfl (by kernel_rfl) rfl rfl rfl (m' := 8159) rfl (Pur.fieldAddr rfl) ?_
      refine JM.take 13 (fun _ h => h) rfl (by kernel_rfl) rfl rfl rfl (m' := 16351) rfl (Pur.load rfl (CellIn.el rfl hrc rfl)) ?_
      refine JM.setv (u' := .slice r.ap (ch F i).pend.length r.cp) 59 rfl rfl ?_
      refine JM.take 15 (fun _ h => h) rfl (by kernel_rfl) rfl rfl rfl (m' := 49119) rfl (Pur.move rfl) ?_
      refine JM.one (i := 5) (by kernel_rfl) ?_
      refine JMi.eff rfl rfl rfl rfl (m' := 49151) rfl (Eff.buildSlice byE ([] : List UInt8) rfl rfl rfl rfl rfl rfl rfl) ?_
      rintro _ _ ⟨b51, rfl, -, rfl⟩
      refine ⟨.inr (fun _ h => h.tail), ?_⟩
      refine JM.one (i := 14) (by kernel_rfl) ?_
      refine JMi.eff rfl rfl rfl rfl (m' := 65535) rfl (Eff.append rfl rfl rfl rfl (by first | rfl | omega | (simp; done) | (simp; omega)) (by first | rfl | omega | (simp; done) | (simp; omega)) (by decide) (by simp; omega) (by simp; omega) hnl2) ?_
      rintro _ _ ⟨a60, c60, rfl, rfl⟩
      refine ⟨.inr (fun _ h => h.tail), ?_⟩
      refine JM.one (i := 16) (by kernel_rfl) ?_
      refine JMi.eff rfl rfl rfl rfl (m' := 131071) rfl (Eff.append rfl rfl rfl rfl (by first | rfl | omega | (simp; done) | (simp; omega)) (by first | rfl | omega | (simp; done) | (simp; omega)) (by decide) (by simp; omega) (by simp; omega) hnil) ?_
      rintro _ _ ⟨a62, c62, rfl, rfl⟩
      refine ⟨.inr (fun _ h => h.tail), ?_⟩
      refine JM.take 17 (fun _ h => h.tail) rfl (by kernel_rfl) rfl rfl rfl (m' := 262143) rfl (Pur.idx rfl rfl rfl (by first | rfl | (simp; done) | omega | (rw [List.length_set, hrl])) rfl (by omega)) ?_
      refine JM.take 18 (fun _ h => h.tail) rfl (by kernel_rfl) rfl rfl rfl (m' := 524287) rfl (Pur.fieldAddr rfl) ?_
      refine JM.one (i := 19) (by kernel_rfl) ?_
      refine JMi.effN rfl rfl rfl (m' := 1048575) rfl (Eff.storeS (E := rcE) (a := ao) (z' := (⟨(ch F i).num, (ch F i).fr, (ch F i).to, (ch F i).at', (ch F i).wr, (ch F i).st, a62, (([] ++ (ch F i).pend).length + ys.length), c62, r.am, (ch F i).marks.length, r.cm⟩ : Rc)) rfl rfl rfl rfl hrc (.tail (.tail (.tail (.tail (.tail (.tail .head))))))) ?_
      rintro _ _ ⟨rfl, rfl⟩
      refine ⟨.inl (by simp), ?_⟩
      refine JM.done rfl ?_
      refine J.seq rfl ?_
      refine J.region rfl ?_
      refine JO.pur rfl rfl rfl (Pur.move rfl) ?_
      refine JO.pur rfl rfl rfl (Pur.nilCheck rfl) ?_
      refine JO.pur rfl rfl rfl (Pur.fieldAddr rfl) ?_
      refine JO.pur rfl rfl rfl (Pur.load rfl (CellIn.blk rfl)) ?_
      refine JO.pur rfl rfl rfl (Pur.move rfl) ?_
      refine JO.pur rfl rfl rfl (Pur.idx rfl rfl rfl (by first | rfl | (simp; done) | omega | (rw [List.length_set, hrl])) rfl (by rw [List.length_set, hrl]; omega)) ?_
      refine JO.pur rfl rfl rfl (Pur.fieldAddr rfl) ?_
      refine JO.pur rfl rfl rfl (Pur.load rfl (CellIn.el rfl (by exact List.getElem?_set_self (by rw [hrl]; omega)) rfl)) ?_
      refine JO.setv (u' := .int .i64 (ch F i).at') 72 rfl rfl ?_
      refine JO.pur rfl rfl rfl (Pur.move rfl) ?_
      refine JO.pur rfl rfl rfl (Pur.len rfl) ?_
      refine JO.pur rfl rfl rfl (Pur.add rfl rfl (wr64 (by omega))) ?_
      refine JO.pur rfl rfl rfl (Pur.idx rfl rfl rfl (by first | rfl | (simp; done) | omega | (rw [List.length_set, hrl])) rfl (by rw [List.length_set, hrl]; omega)) ?_
      refine JO.pur rfl rfl rfl (Pur.fieldAddr rfl) ?_
      refine JO.effN rfl rfl (Eff.storeS (E := rcE) (a := ao) (z := (⟨(ch F i).num, (ch F i).fr, (ch F i).to, (ch F i).at', (ch F i).wr, (ch F i).st, a62, (([] ++ (ch F i).pend).length + ys.length), c62, r.am, (ch F i).marks.length, r.cm⟩ : Rc)) (z' := (⟨(ch F i).num, (ch F i).fr, (ch F i).to, ((ch F i).at' + (ys.length : Int)), (ch F i).wr, (ch F i).st, a62, (([] ++ (ch F i).pend).length + ys.length), c62, r.am, (ch F i).marks.length, r.cm⟩ : Rc)) rfl rfl rfl rfl (by exact List.getElem?_set_self (by rw [hrl]; omega)) (.tail (.tail (.tail .head)))) ?_
      rintro _ _ ⟨rfl, rfl⟩
      refine JO.nil ?_
      refine J.seq rfl ?_
      refine J.region rfl ?_
      refine JO.pur rfl rfl rfl (Pur.assign rfl) ?_
      refine JO.nil ?_
      refine J.ret rfl rfl ?_
      have hv : writeF F n ys = (upd F i { ch F i with pend := (ch F i).pend ++ ys, at' := (ch F i).at' + ys.length }, 0) := by unfold writeF; rw [hx]; dsimp only; rw [if_neg (by rintro (h | h); rw [hw] at h; cases h; omega)]
      refine ⟨_, _, ⟨rfl, rfl⟩, by rw [hv]; rfl, fun h s => ?_⟩
      rw [hv]
      refine RA_shut (L := L) (p := p) (bs := F.bytes) (nx := F.next) (F := F) (c' := { ch F i with pend := (ch F i).pend ++ ys, at' := (ch F i).at' + ys.length }) (ab := ab) (cb := cb) (ao := ao) (co := co) (ap := a62) (cp := c62) (am := r.am) (cm := r.cm) hr hrg hch ?_
      try simp only [rcOf, List.length_append, List.length_cons, List.length_nil, List.nil_append] at s ⊢
      simp only [List.set_set] at s
      exact SubC.out h s

theorem rWrite_ok {L : List Asn} {p : Nat} {F : Fl} {n : Int} {b : Option Addr} {m cq : Nat} {ys : List UInt8} [SlIn byE L b ys] (hm : m = ys.length) (hys : ys.length ≤ 9223372036854775807) (hnil : b = none → m = 0 ∧ cq = 0) {k : Nat} (g : Hf.Good F k) (hk : k ≤ 100000) : CallS Try.prog 48 [.pointer (some ⟨p, 0, none⟩), .int .i64 n, .slice b m cq].toArray (RA p F :: L) (fun v M => v = .int .i64 (writeF F n ys).2 ∧ M = RA p (writeF F n ys).1 :: L) := by
  cases hx : ix F n with
  | none => exact rWrite_no hm hys hnil g hk hx
  | some i => exact rWrite_yes hm hys hnil g hk hx
end Go.Proofs.Ytgbckamaenapeaa
