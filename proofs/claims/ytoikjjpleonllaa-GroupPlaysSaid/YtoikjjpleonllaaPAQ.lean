/-
  A part of the proof of the claim that this folder bears.
-/
import Derived.Test.YtoikjjpleonllaaPAP
import Derived.Test.YtoikjjpleonllaaPAN
/- The text R6. -/
set_option linter.unusedVariables false
set_option linter.unusedSimpArgs false
set_option maxRecDepth 10000
namespace Go.Proofs.Ytoikjjpleonllaa
open Go Go.KK Gr Rg

theorem eq2n (x y : Nat × Nat) (w : World) : (Op.equal 90 (.agg (pairE.enc x).toArray) (.agg (pairE.enc y).toArray)).run Try.prog w = .ok (decide (x = y)) w := by
  have hu := run_underlying (P := Try.prog) Try.underlying90 w
  have hi : (sizeOf 3).run Try.prog w = .ok 1 w := run_sizeOf_of (by kernel_rfl)
  have hs := Scl.run (P := Try.prog) (t := 3) (w := w) (by kernel_rfl)
  have he := fun a b => run_equalIn_int (P := Try.prog) w 9998 3 .i64 .i64 a b Try.underlying3
  obtain ⟨a, b⟩ := x
  obtain ⟨c, d⟩ := y
  unfold Op.equal
  rw [show Op.maxDepth = 9999 + 1 from rfl, Op.equalIn.eq_def]
  simp only [pairE, Sem.run_bind, hu, hi, Result.andThen_ok]
  simp [Std.Legacy.Range.forIn_eq_forIn_range', List.range', part, hs, he]
  by_cases h1 : a = c <;> by_cases h2 : b = d <;> simp [h1, h2] <;> omega
instance : EqE Try.prog 90 pairE := ⟨by kernel_rfl, eq2n⟩
theorem pairs_ok {L : List Asn} {a b : Option Addr} {n m cap cap2 : Nat} {xs ys : List (Nat × Nat)} [SlIn pairE L a xs] [SlIn pairE L b ys] (hn : n = xs.length) (hm : m = ys.length) (hb : xs.length ≤ 1000000) :
    CallS Try.prog 51 [.slice a n cap, .slice b m cap2].toArray L (fun v M => v = .bool (decide (xs = ys)) ∧ M = L) := by
  subst hn
  subst hm
  refine CallS.enter Try.func51 rfl rfl rfl rfl rfl ?_
  refine J.seq rfl ?_
  refine J.region rfl ?_
  refine JO.pur rfl rfl rfl (Pur.assign rfl) ?_
  refine JO.nil ?_
  refine J.seq rfl ?_
  refine J.seq rfl ?_
  refine J.region rfl ?_
  refine JO.pur rfl rfl rfl (Pur.move rfl) ?_
  refine JO.pur rfl rfl rfl (Pur.len rfl) ?_
  refine JO.pur rfl rfl rfl (Pur.move rfl) ?_
  refine JO.pur rfl rfl rfl (Pur.len rfl) ?_
  refine JO.pur rfl rfl rfl (Pur.neqI rfl rfl) ?_
  refine JO.nil ?_
  refine J.splitB 10 rfl (fun h10 => ?_) (fun h10 => ?_)
  · try simp only [bSimp, bSimp2, ne_eq] at h10
    refine J.condT rfl rfl ?_
    refine J.seq rfl ?_
    refine J.region rfl ?_
    refine JO.pur rfl rfl rfl (Pur.assign rfl) ?_
    refine JO.nil ?_
    refine J.ret rfl rfl ?_
    exact ⟨congrArg Value.bool (decide_eq_false (fun e => by rw [e] at h10; omega)).symm, rfl⟩
  · try simp only [bSimp, bSimp2, ne_eq] at h10
    refine J.condF rfl rfl ?_
    refine J.skip rfl ?_
    refine J.seq rfl ?_
    refine J.seq rfl ?_
    refine J.region rfl ?_
    refine JO.pur rfl rfl rfl (Pur.assign rfl) ?_
    refine JO.nil ?_
    refine J.block rfl ?_
    refine J.loopF (ι := Nat) (fun i => i ≤ xs.length ∧ xs.take i = ys.take i) (fun i => [(5, .int .i64 (i : Int))]) [(0, _), (1, _)] (fun i => L) (fun i => xs.length - i) 0 rfl (.cons rfl rfl (.cons rfl rfl .nil)) (.cons rfl rfl .nil) (by first | exact fun _ h => h | exact SubC.out | (dsimp only; exact SubC.out)) ⟨Nat.zero_le _, rfl⟩ ?_
    rintro i ⟨hi1, hi2⟩ ih0
    try dsimp only
    refine J.seq rfl ?_
    refine J.seq rfl ?_
    refine J.region rfl ?_
    refine JO.pur rfl rfl rfl (Pur.move rfl) ?_
    refine JO.pur rfl rfl rfl (Pur.move rfl) ?_
    refine JO.pur rfl rfl rfl (Pur.len rfl) ?_
    refine JO.pur rfl rfl rfl (Pur.lss rfl rfl) ?_
    refine JO.nil ?_
    refine J.splitB 14 rfl (fun h14 => ?_) (fun h14 => ?_)
    · try simp only [bSimp, bSimp2, ne_eq] at h14
      refine J.condT rfl rfl ?_
      refine J.skip rfl ?_
      refine J.seq rfl ?_
      refine J.block rfl ?_
      refine J.seq rfl ?_
      refine J.quiet rfl Try.mixed (by kernel_rfl) ?_
      refine JQ.pur rfl rfl rfl (Pur.move rfl) ?_
      refine JQ.pur rfl rfl rfl (Pur.move rfl) ?_
      refine JQ.pur rfl rfl rfl (Pur.idx rfl rfl rfl (by first | rfl | (simp; done) | omega) rfl (by omega)) ?_
      refine JQ.pur rfl rfl rfl (Pur.loadA rfl rfl rfl (CellsIn.el rfl (List.getElem?_eq_getElem (by omega)))) ?_
      refine JQ.pur rfl rfl rfl (Pur.move rfl) ?_
      refine JQ.pur rfl rfl rfl (Pur.move rfl) ?_
      refine JQ.pur rfl rfl rfl (Pur.idx rfl rfl rfl (by first | rfl | (simp; done) | omega) rfl (by omega)) ?_
      refine JQ.pur rfl rfl rfl (Pur.loadA rfl rfl rfl (CellsIn.el rfl (List.getElem?_eq_getElem (by omega)))) ?_
      refine JQ.pur rfl rfl rfl (Pur.neqE rfl rfl) ?_
      refine JQ.nil ?_
      refine J.splitB 25 rfl (fun h25 => ?_) (fun h25 => ?_)
      · try simp only [bSimp, bSimp2, ne_eq] at h25
        refine J.condT rfl rfl ?_
        refine J.seq rfl ?_
        refine J.region rfl ?_
        refine JO.pur rfl rfl rfl (Pur.assign rfl) ?_
        refine JO.nil ?_
        refine J.ret rfl rfl ?_
        exact ⟨congrArg Value.bool (decide_eq_false (fun e => h25 (by simp [e]))).symm, rfl⟩
      · try simp only [bSimp, bSimp2, ne_eq] at h25
        refine J.condF rfl rfl ?_
        refine J.skip rfl ?_
        refine J.inBlock ?_
        refine J.region rfl ?_
        refine JO.pur rfl rfl rfl (Pur.move rfl) ?_
        refine JO.pur rfl rfl rfl (Pur.add rfl rfl (wr64 (by omega))) ?_
        refine JO.pur rfl rfl rfl (Pur.assign rfl) ?_
        refine JO.nil ?_
        exact J.weaken (.cons rfl (congrArg (Value.int .i64) (by omega)) (.cons rfl rfl (.cons rfl rfl .nil))) (by first | exact fun _ h => h | exact SubC.out | (dsimp only; exact SubC.out)) (ih0 (i + 1) ⟨by omega, take_succ_eq hi2 (by omega) (by omega) h25⟩ (by omega))
    · try simp only [bSimp, bSimp2, ne_eq] at h14
      refine J.condF rfl rfl ?_
      refine J.exit rfl rfl ?_
      refine J.seq rfl ?_
      refine J.region rfl ?_
      refine JO.pur rfl rfl rfl (Pur.assign rfl) ?_
      refine JO.nil ?_
      refine J.ret rfl rfl ?_
      exact ⟨congrArg Value.bool (decide_eq_true (take_all_eq hi2 (by omega) (by omega))).symm, rfl⟩

theorem rnone_ok {L : List Asn} {t : ByteArray} :
    CallS Try.prog 80 [.string t].toArray L (fun v M => ∃ (a : Int) (b : Bool), v = .tuple #[.agg #[.int .i64 a, .bool b], .bool (decide (t ∈ opsL))] ∧ L = M) := by
  refine CallS.ent ?_
  refine CallS.enter Try.func80 rfl rfl rfl rfl rfl ?_
  refine J.seq rfl ?_
  refine J.region rfl ?_
  refine JO.eff rfl rfl rfl (Eff.alloc (cs := [_, _]) rfl) ?_
  rintro _ _ ⟨b2, rfl, rfl⟩
  refine JO.pur rfl rfl rfl (Pur.assign rfl) ?_
  refine JO.nil ?_
  refine J.seq rfl ?_
  refine J.seq rfl ?_
  refine J.region rfl ?_
  refine JO.pur rfl rfl rfl (Pur.move rfl) ?_
  refine JO.nil ?_
  refine J.block rfl ?_
  refine J.seq rfl ?_
  refine J.region rfl ?_
  refine JO.pur rfl rfl rfl (Pur.eqlT rfl rfl) ?_
  refine JO.pur rfl rfl rfl (Pur.assign rfl) ?_
  refine JO.nil ?_
  refine J.splitB 5 rfl (fun h5 => ?_) (fun h5 => ?_)
  · try simp only [bSimp, bSimp2, ne_eq] at h5
    refine J.condT rfl rfl ?_
    refine J.seq rfl ?_
    refine J.region rfl ?_
    refine JO.pur rfl rfl rfl (Pur.build (cs := [_, _]) rfl rfl) ?_
    refine JO.effN rfl rfl (Eff.storeBA (cs' := [_, _]) rfl rfl (by rfl) (by rfl) (by rfl)) ?_
    rintro _ _ ⟨rfl, rfl⟩
    refine JO.pur rfl rfl rfl (Pur.assign rfl) ?_
    refine JO.nil ?_
    refine J.retC rfl (.cell rfl (ld_agg rfl CellsIn.blk) (.tmp rfl .nil)) ?_
    have hv : decide (t ∈ opsL) = true := decide_eq_true (by rw [h5]; decide)
    refine ⟨_, _, ⟨0, false, rfl, rfl⟩, by rw [hv]; rfl, SubC.out⟩
  · try simp only [bSimp, bSimp2, ne_eq] at h5
    refine J.condF rfl rfl ?_
    refine J.seq rfl ?_
    refine J.region rfl ?_
    refine JO.pur rfl rfl rfl (Pur.eqlT rfl rfl) ?_
    refine JO.pur rfl rfl rfl (Pur.assign rfl) ?_
    refine JO.nil ?_
    refine J.splitB 8 rfl (fun h8 => ?_) (fun h8 => ?_)
    · try simp only [bSimp, bSimp2, ne_eq] at h8
      refine J.condT rfl rfl ?_
      refine J.seq rfl ?_
      refine J.region rfl ?_
      refine JO.pur rfl rfl rfl (Pur.build (cs := [_, _]) rfl rfl) ?_
      refine JO.effN rfl rfl (Eff.storeBA (cs' := [_, _]) rfl rfl (by rfl) (by rfl) (by rfl)) ?_
      rintro _ _ ⟨rfl, rfl⟩
      refine JO.pur rfl rfl rfl (Pur.assign rfl) ?_
      refine JO.nil ?_
      refine J.retC rfl (.cell rfl (ld_agg rfl CellsIn.blk) (.tmp rfl .nil)) ?_
      have hv : decide (t ∈ opsL) = true := decide_eq_true (by rw [h8]; decide)
      refine ⟨_, _, ⟨1, false, rfl, rfl⟩, by rw [hv]; rfl, SubC.out⟩
    · try simp only [bSimp, bSimp2, ne_eq] at h8
      refine J.condF rfl rfl ?_
      refine J.seq rfl ?_
      refine J.region rfl ?_
      refine JO.pur rfl rfl rfl (Pur.eqlT rfl rfl) ?_
      refine JO.pur rfl rfl rfl (Pur.assign rfl) ?_
      refine JO.nil ?_
      refine J.splitB 11 rfl (fun h11 => ?_) (fun h11 => ?_)
      · try simp only [bSimp, bSimp2, ne_eq] at h11
        refine J.condT rfl rfl ?_
        refine J.seq rfl ?_
        refine J.region rfl ?_
        refine JO.pur rfl rfl rfl (Pur.build (cs := [_, _]) rfl rfl) ?_
        refine JO.effN rfl rfl (Eff.storeBA (cs' := [_, _]) rfl rfl (by rfl) (by rfl) (by rfl)) ?_
        rintro _ _ ⟨rfl, rfl⟩
        refine JO.pur rfl rfl rfl (Pur.assign rfl) ?_
        refine JO.nil ?_
        refine J.retC rfl (.cell rfl (ld_agg rfl CellsIn.blk) (.tmp rfl .nil)) ?_
        have hv : decide (t ∈ opsL) = true := decide_eq_true (by rw [h11]; decide)
        refine ⟨_, _, ⟨9223372036854775807, false, rfl, rfl⟩, by rw [hv]; rfl, SubC.out⟩
      · try simp only [bSimp, bSimp2, ne_eq] at h11
        refine J.condF rfl rfl ?_
        refine J.seq rfl ?_
        refine J.region rfl ?_
        refine JO.pur rfl rfl rfl (Pur.eqlT rfl rfl) ?_
        refine JO.pur rfl rfl rfl (Pur.assign rfl) ?_
        refine JO.nil ?_
        refine J.splitB 14 rfl (fun h14 => ?_) (fun h14 => ?_)
        · try simp only [bSimp, bSimp2, ne_eq] at h14
          refine J.condT rfl rfl ?_
          refine J.seq rfl ?_
          refine J.region rfl ?_
          refine JO.pur rfl rfl rfl (Pur.build (cs := [_, _]) rfl rfl) ?_
          refine JO.effN rfl rfl (Eff.storeBA (cs' := [_, _]) rfl rfl (by rfl) (by rfl) (by rfl)) ?_
          rintro _ _ ⟨rfl, rfl⟩
          refine JO.pur rfl rfl rfl (Pur.assign rfl) ?_
          refine JO.nil ?_
          refine J.retC rfl (.cell rfl (ld_agg rfl CellsIn.blk) (.tmp rfl .nil)) ?_
          have hv : decide (t ∈ opsL) = true := decide_eq_true (by rw [h14]; decide)
          refine ⟨_, _, ⟨(-9223372036854775808), false, rfl, rfl⟩, by rw [hv]; rfl, SubC.out⟩
        · try simp only [bSimp, bSimp2, ne_eq] at h14
          refine J.condF rfl rfl ?_
          refine J.seq rfl ?_
          refine J.region rfl ?_
          refine JO.pur rfl rfl rfl (Pur.eqlT rfl rfl) ?_
          refine JO.pur rfl rfl rfl (Pur.assign rfl) ?_
          refine JO.nil ?_
          refine J.splitB 17 rfl (fun h17 => ?_) (fun h17 => ?_)
          · try simp only [bSimp, bSimp2, ne_eq] at h17
            refine J.condT rfl rfl ?_
            refine J.seq rfl ?_
            refine J.region rfl ?_
            refine JO.pur rfl rfl rfl (Pur.build (cs := [_, _]) rfl rfl) ?_
            refine JO.effN rfl rfl (Eff.storeBA (cs' := [_, _]) rfl rfl (by rfl) (by rfl) (by rfl)) ?_
            rintro _ _ ⟨rfl, rfl⟩
            refine JO.pur rfl rfl rfl (Pur.assign rfl) ?_
            refine JO.nil ?_
            refine J.retC rfl (.cell rfl (ld_agg rfl CellsIn.blk) (.tmp rfl .nil)) ?_
            have hv : decide (t ∈ opsL) = true := decide_eq_true (by rw [h17]; decide)
            refine ⟨_, _, ⟨1, true, rfl, rfl⟩, by rw [hv]; rfl, SubC.out⟩
          · try simp only [bSimp, bSimp2, ne_eq] at h17
            refine J.condF rfl rfl ?_
            refine J.seq rfl ?_
            refine J.region rfl ?_
            refine JO.pur rfl rfl rfl (Pur.eqlT rfl rfl) ?_
            refine JO.pur rfl rfl rfl (Pur.assign rfl) ?_
            refine JO.nil ?_
            refine J.splitB 20 rfl (fun h20 => ?_) (fun h20 => ?_)
            · try simp only [bSimp, bSimp2, ne_eq] at h20
              refine J.condT rfl rfl ?_
              refine J.seq rfl ?_
              refine J.region rfl ?_
              refine JO.pur rfl rfl rfl (Pur.build (cs := [_, _]) rfl rfl) ?_
              refine JO.effN rfl rfl (Eff.storeBA (cs' := [_, _]) rfl rfl (by rfl) (by rfl) (by rfl)) ?_
              rintro _ _ ⟨rfl, rfl⟩
              refine JO.pur rfl rfl rfl (Pur.assign rfl) ?_
              refine JO.nil ?_
              refine J.retC rfl (.cell rfl (ld_agg rfl CellsIn.blk) (.tmp rfl .nil)) ?_
              have hv : decide (t ∈ opsL) = true := decide_eq_true (by rw [h20]; decide)
              refine ⟨_, _, ⟨0, true, rfl, rfl⟩, by rw [hv]; rfl, SubC.out⟩
            · try simp only [bSimp, bSimp2, ne_eq] at h20
              refine J.condF rfl rfl ?_
              refine J.skip rfl ?_
              refine J.inBlock ?_
              refine J.seq rfl ?_
              refine J.region rfl ?_
              refine JO.pur rfl rfl rfl (Pur.build (cs := [_, _]) rfl rfl) ?_
              refine JO.effN rfl rfl (Eff.storeBA (cs' := [_, _]) rfl rfl (by rfl) (by rfl) (by rfl)) ?_
              rintro _ _ ⟨rfl, rfl⟩
              refine JO.pur rfl rfl rfl (Pur.assign rfl) ?_
              refine JO.nil ?_
              refine J.retC rfl (.cell rfl (ld_agg rfl CellsIn.blk) (.tmp rfl .nil)) ?_
              have hv : decide (t ∈ opsL) = false := decide_eq_false (by simp [opsL, h5, h8, h11, h14, h17, h20])
              refine ⟨_, _, ⟨0, false, rfl, rfl⟩, by rw [hv]; rfl, SubC.out⟩

theorem rNone_ok {L : List Asn} {t : ByteArray} :
    CallS Try.prog 45 [.string t].toArray L (fun v M => ∃ a : Int, v = .tuple #[.int .i64 a, .int .i64 (if t ∈ opsL then 0 else 2)] ∧ L = M) := by
  refine CallS.ent ?_
  refine CallS.enter Try.func45 rfl rfl rfl rfl rfl ?_
  refine J.seq rfl ?_
  refine J.region rfl ?_
  refine JO.pur rfl rfl rfl (Pur.assign rfl) ?_
  refine JO.pur rfl rfl rfl (Pur.assign rfl) ?_
  refine JO.nil ?_
  refine J.seq rfl ?_
  refine J.region rfl ?_
  refine JO.pur rfl rfl rfl (Pur.move rfl) ?_
  refine JO.eff rfl rfl rfl (Eff.call rfl (rnone_ok (t := t))) ?_
  rintro _ _ ⟨a, b, rfl, rfl⟩
  refine JO.pur rfl rfl rfl (Pur.move rfl) ?_
  refine JO.pur rfl rfl rfl (Pur.extract rfl rfl) ?_
  refine JO.pur rfl rfl rfl (Pur.extract rfl rfl) ?_
  refine JO.eff rfl rfl rfl (Eff.alloc (cs := [_, _]) rfl) ?_
  rintro _ _ ⟨b4, rfl, rfl⟩
  refine JO.effN rfl rfl (Eff.storeBA (cs' := [_, _]) rfl rfl (by rfl) (by rfl) (by rfl)) ?_
  rintro _ _ ⟨rfl, rfl⟩
  refine JO.pur rfl rfl rfl (Pur.assign rfl) ?_
  refine JO.nil ?_
  refine J.seq rfl ?_
  refine J.seq rfl ?_
  refine J.region rfl ?_
  refine JO.pur rfl rfl rfl (Pur.move rfl) ?_
  refine JO.pur rfl rfl rfl (Pur.not rfl) ?_
  refine JO.nil ?_
  refine J.splitB 12 rfl (fun h12 => ?_) (fun h12 => ?_)
  · try simp only [bSimp, bSimp2, ne_eq] at h12
    refine J.condT rfl rfl ?_
    refine J.seq rfl ?_
    refine J.region rfl ?_
    refine JO.pur rfl rfl rfl (Pur.assign rfl) ?_
    refine JO.pur rfl rfl rfl (Pur.assign rfl) ?_
    refine JO.nil ?_
    refine J.ret rfl rfl ?_
    refine ⟨_, _, ⟨0, rfl, rfl⟩, by rw [if_neg (by simpa using h12)]; rfl, SubC.out⟩
  · try simp only [bSimp, bSimp2, ne_eq] at h12
    refine J.condF rfl rfl ?_
    refine J.skip rfl ?_
    refine J.seq rfl ?_
    refine J.region rfl ?_
    refine JO.pur rfl rfl rfl (Pur.fieldAddr rfl) ?_
    refine JO.pur rfl rfl rfl (Pur.load rfl (CellIn.blk rfl)) ?_
    refine JO.pur rfl rfl rfl (Pur.assign rfl) ?_
    refine JO.pur rfl rfl rfl (Pur.assign rfl) ?_
    refine JO.nil ?_
    refine J.ret rfl rfl ?_
    refine ⟨_, _, ⟨a, rfl, rfl⟩, by rw [if_pos (by simpa using h12)]; rfl, SubC.out⟩

end Go.Proofs.Ytoikjjpleonllaa

/- The text RSim3. -/
set_option linter.unusedVariables false
set_option linter.unusedSimpArgs false
/-! What stays while the document's collective goes on. -/
namespace Rg
open Go Go.KK Gr Go.Proofs.Ytoikjjpleonllaa
structure KR (n d : Nat) (R R' : Rs) : Prop where
  w : WR n R'
  kd : R'.kind = R.kind
  op : R'.op = R.op
  root : R'.root = R.root
  got : R'.got = R.got
  few : R'.fly.length ≤ R.fly.length + d
section
variable {n d d2 : Nat} {R R' R2 : Rs}
theorem KR.rfl (h : WR n R) : KR n 0 R R := ⟨h, .refl _, .refl _, .refl _, .refl _, Nat.le_refl _⟩
theorem KR.trans (h : KR n d R R') (h2 : KR n d2 R' R2) : KR n (d + d2) R R2 := ⟨h2.w, h2.kd.trans h.kd, h2.op.trans h.op, h2.root.trans h.root, h2.got.trans h.got, by have := h.few; have := h2.few; omega⟩
theorem KR.le (h : KR n d R R') (hd : d ≤ d2) : KR n d2 R R' := ⟨h.w, h.kd, h.op, h.root, h.got, by have := h.few; omega⟩
theorem KR.rt (h : KR n d R R') : rrt R' = rrt R := by unfold rrt; rw [h.root]
theorem pk_keepR (p : Nat) (v : Int) : ∀ (cs : List Nat) (R : Rs), (pkR R p v cs).kind = R.kind ∧ (pkR R p v cs).op = R.op ∧ (pkR R p v cs).root = R.root ∧ (pkR R p v cs).got = R.got
  | [], R => ⟨.refl _, .refl _, .refl _, .refl _⟩
  | c :: cs, R => pk_keepR p v cs (sendR R ⟨p, c, 0, v, true⟩)
theorem cast_keepR (h : WR n R) {p : Nat} (hp : p < n) (v : Int) : KR n 3 R (castR R p v) := by
  obtain ⟨a1, a2, a3, a4⟩ := pk_keepR p v (chP R.sum.length (rrt R) p) (setHas (setSum R p v) p true)
  refine ⟨h.cast hp v, a1, a2, a3, a4, ?_⟩
  unfold castR
  rw [pkR_fly, List.length_append, List.length_map]
  have := chP_len R.sum.length (rrt R) p
  show R.fly.length + _ ≤ _
  omega
theorem comb_keepR (h : WR n R) {p : Nat} (hp : p < n) : KR n 3 R (combR R p) := by
  unfold combR
  split
  · exact (KR.rfl h).le (by omega)
  · split
    · refine ⟨h.send ?_, .refl _, .refl _, .refl _, .refl _, ?_⟩
      · show parP R.sum.length (rrt R) p < n
        rw [h.ls]; exact par_lt h.n1
      · show (R.fly ++ [_]).length ≤ _
        rw [List.length_append]; simp
    · split
      · exact ⟨h.cast1 hp, .refl _, .refl _, .refl _, .refl _, Nat.le_add_right _ _⟩
      · exact cast_keepR h hp _
theorem start_keepR (h : WR n R) {p : Nat} (hp : p < n) : KR n 1 R (startR R p) := by
  obtain ⟨s1, s2, s3, s4, s5, s6, s7, s8⟩ := startR_same R p
  exact ⟨h.start hp, s6, s5, s7, s3, s8⟩
theorem scan_keepR : ∀ (f : Nat) {R : Rs} {p : Nat}, WR n R → p < n → KR n f R (scanR f R p)
  | 0, R, p, h, hp => KR.rfl h
  | f + 1, R, p, h, hp => by
    by_cases h1 : rhas R p = true
    · rw [scanR_has h1]; exact (KR.rfl h).le (by omega)
    · by_cases h2 : 2 ^ rrnd R p < R.sum.length
      · have hr := r_ltR h hp h2
        have hs := start_keepR h hp
        have hrs : rrnd (startR R p) p = rrnd R p := by unfold rrnd; rw [(startR_same R p).2.2.2.1]
        have go : ∀ R1, KR n 1 R R1 → rrnd R1 p = rrnd R p → KR n (f + 1) R (scanR f (nextR R1 p) p) := fun R1 k1 k2 => by
          have w2 : WR n (nextR R1 p) := (k1.w.rnd p (by omega)).beg p false
          have k3 : KR n 0 R1 (nextR R1 p) := ⟨w2, .refl _, .refl _, .refl _, .refl _, Nat.le_refl _⟩
          exact ((k1.trans k3).trans (scan_keepR f w2 hp)).le (by omega)
        by_cases h3 : 2 ^ rrnd R p ≤ p
        · by_cases h4 : (seekS R.op (rrnd R p) (rgot R p) (rsum R p)).2 = true
          · rw [scanR_some h1 h2 h3 h4]
            exact go _ ⟨hs.w.sum p _, hs.kd, hs.op, hs.root, hs.got, hs.few⟩ hrs
          · rw [scanR_wait h1 h2 h3 h4]; exact hs.le (by omega)
        · rw [scanR_go h1 h2 h3]; exact go _ hs hrs
      · rw [scanR_end h1 h2]; exact ⟨h.has p true, .refl _, .refl _, .refl _, .refl _, Nat.le_add_right _ _⟩
theorem begR_keep {root : Nat} (h : WR n R) : ∀ k, k ≤ n → KR n (3 * k) R (begR n root R k)
  | 0, _ => KR.rfl h
  | k + 1, hk => by
    have h1 := begR_keep (root := root) h k (by omega)
    unfold begR
    split
    · exact (h1.trans (comb_keepR h1.w (by omega))).le (by omega)
    · exact h1.le (by omega)
theorem begRS_keep (h : WR n R) : ∀ k, k ≤ n → KR n (4 * k) R (begRS R k)
  | 0, _ => KR.rfl h
  | k + 1, hk => by
    have h1 := begRS_keep h k (by omega)
    exact (h1.trans (scan_keepR 4 h1.w (by omega))).le (by omega)
def gotL (t : Nat) (R : Rs) : Prop := ∀ q, (rgot R q).length ≤ t
theorem gotL.keep {t : Nat} (h : gotL t R) (k : KR n d R R') : gotL t R' := fun q => by unfold rgot; rw [k.got]; exact h q
theorem dlvR_gotL {t k : Nat} (hw : WR n R) (h : gotL t R) (hk : k < R.fly.length) : gotL (t + 1) (dlvR R k) := by
  have hto : (msgR R k).to < n := hw.ft _ (List.mem_of_getElem? (getD_get default hk))
  have hT : WR n (takeR R k) := hw.take k
  unfold dlvR
  split
  · exact gotL.keep (R := takeR R k) (fun q => Nat.le_succ_of_le (h q)) (cast_keepR hT hto _)
  · have hG : gotL (t + 1) (setGot (takeR R k) (msgR R k).to (rgot R (msgR R k).to ++ [msgR R k])) := fun q => by
      rw [rgot_set hT hto]
      split
      · rw [List.length_append]; have := h (msgR R k).to; simp; exact this
      · exact Nat.le_succ_of_le (h q)
    split
    · exact hG.keep (scan_keepR 4 (hT.got _ _) hto)
    · exact hG.keep (comb_keepR (hT.got _ _) hto)
end
theorem WR0 {k o : ByteArray} {root : Int} {vs : List Int} (g3 : 1 ≤ vs.length) (g4 : vs.length ≤ 8) : WR vs.length (newR0 k o root vs) :=
  ⟨g3, g4, W0_len k vs, by show (List.replicate _ _).length = _; rw [List.length_replicate], by show (List.replicate _ _).length = _; rw [List.length_replicate], by show (List.replicate _ _).length = _; rw [List.length_replicate], by show (List.replicate _ _).length = _; rw [List.length_replicate], fun r hr => by rw [List.eq_of_mem_replicate hr]; exact Nat.zero_le _, fun m hm => by cases hm⟩
theorem got0 (k o : ByteArray) (root : Int) (vs : List Int) : gotL 0 (newR0 k o root vs) := fun q => by
  show ((List.replicate vs.length []).getD q []).length ≤ 0
  rw [List.getD_eq_getElem?_getD, List.getElem?_replicate]
  split <;> exact Nat.le_refl _
theorem gotN {k o : ByteArray} {root : Int} {vs : List Int} (hg : goodN k o root vs) : gotL 0 (newR k o root vs) := by
  obtain ⟨⟨g1, g2, ⟨g3, g4⟩, g5⟩, g6⟩ := hg
  have hw := WR0 (k := k) (o := o) (root := root) g3 g4
  have h0 := got0 k o root vs
  have hl : (newR0 k o root vs).sum.length = vs.length := W0_len k vs
  unfold newR beginR
  rw [hl]
  show gotL 0 (if k = sCast then _ else if k = sScan then _ else _)
  split
  · rename_i e
    have hr := g5 (by rw [e]; decide)
    exact h0.keep (cast_keepR hw (by show root.toNat < _; omega) _)
  · split
    · exact h0.keep (begRS_keep hw _ (Nat.le_refl _))
    · exact h0.keep (begR_keep hw _ (Nat.le_refl _))
end Rg
namespace Go.Proofs.Ytoikjjpleonllaa
open Go Go.KK Gr Rg
theorem gA_nil {L : List Asn} {h : Hp} (s : Sat h L) : ∀ n : Nat, Sat h (star (List.zipWith gA (List.replicate n ((none, 0) : Option Addr × Nat)) (List.replicate n ([] : List Rm))) :: L)
  | 0 => zw_nil (A := gA) s
  | n + 1 => by
    have h1 := gA_nil s n
    have h2 := sl_nil_new (E := rmE) h1
    rw [List.replicate_succ, List.replicate_succ, List.zipWith_cons_cons]
    refine Sat.star.2 ?_
    exact h2.cons_imp (fun _ k => k) (fun _ k => Sat.star.1 k)
theorem gA_zip (n : Nat) : (List.replicate n ((none, 0) : Option Addr × Nat)).zip (List.replicate n ([] : List Rm)) = List.replicate n (((none, 0), []) : (Option Addr × Nat) × List Rm) := by
  induction n with
  | zero => rfl
  | succ n ih => rw [List.replicate_succ, List.replicate_succ, List.replicate_succ, List.zip_cons_cons, ih]
end Go.Proofs.Ytoikjjpleonllaa

/- The text RSim4. -/
set_option linter.unusedVariables false
set_option linter.unusedSimpArgs false
/-! The document's collective, made in memory. -/
namespace Rg
open Go Go.KK Gr Go.Proofs.Ytoikjjpleonllaa
def newR1 (k o : ByteArray) (root : Int) (vs : List Int) : Rs := ⟨k, o, root, vs, List.replicate vs.length false, List.replicate vs.length [], List.replicate vs.length 0, List.replicate vs.length false, [], 0⟩
theorem newR1_bar {k o : ByteArray} {root : Int} {vs : List Int} (h : k = sBar) : newR0 k o root vs = { newR1 k o root vs with op := ⟨#[43]⟩, sum := List.replicate vs.length 0 } := by
  unfold newR0 newR1 o0 W0; rw [if_pos h, if_pos h]
theorem newR1_not {k o : ByteArray} {root : Int} {vs : List Int} (h : ¬ k = sBar) : newR0 k o root vs = newR1 k o root vs := by
  unfold newR0 newR1 o0 W0; rw [if_neg h, if_neg h]
end Rg
namespace Go.Proofs.Ytoikjjpleonllaa
open Go Go.KK Gr Rg
theorem new_mk {L : List Asn} {h : Hp} {b n cs : Nat} {k o : ByteArray} {root : Int} {vs : List Int} {sa x1 x2 x3 x4 : Option Addr} (hn : n = vs.length)
    (s : Sat h (blk b (rC k o root n sa cs x1 n n x2 n n x3 n n x4 n n none 0 0 0) :: sl intE sa cs vs :: sl boE x1 n (List.replicate n false) :: sl grE x2 n (List.replicate n ((none, 0), [])) :: sl natE x3 n (List.replicate n 0) :: sl boE x4 n (List.replicate n false) :: L)) :
    Sat h (RB b (newR1 k o root vs) :: L) := by
  subst hn
  have s1 := gA_nil s vs.length
  have s2 := sl_nil_new (E := rmE) s1
  have s3 := s2.cons_imp (B := slQ rmE none 0 []) (fun _ k => slQ_of k) (fun _ k => k)
  refine RB_mk (R := newR1 k o root vs) (L := L) ⟨sa, cs, x1, vs.length, x2, vs.length, x3, vs.length, x4, vs.length, none, 0, List.replicate vs.length (none, 0)⟩ (by show (List.replicate vs.length (none, 0)).length = (List.replicate vs.length []).length; rw [List.length_replicate, List.length_replicate]) ?_
  have key : ∀ l1 l2 l3 l4, l1 = vs.length → l2 = vs.length → l3 = vs.length → l4 = vs.length → ∀ gz, gz = List.replicate vs.length (((none, 0), []) : (Option Addr × Nat) × List Rm) →
      Sat h (blk b (rC k o root vs.length sa cs x1 l1 vs.length x2 l2 vs.length x3 l3 vs.length x4 l4 vs.length none 0 0 0) :: sl intE sa cs vs :: sl boE x1 vs.length (List.replicate vs.length false) :: sl grE x2 vs.length gz :: star (List.zipWith gA (List.replicate vs.length ((none, 0) : Option Addr × Nat)) (List.replicate vs.length ([] : List Rm))) :: sl natE x3 vs.length (List.replicate vs.length 0) :: sl boE x4 vs.length (List.replicate vs.length false) :: slQ rmE none 0 [] :: L) := by
    intro l1 l2 l3 l4 e1 e2 e3 e4 gz e5
    subst e1; subst e2; subst e3; subst e4; subst e5
    exact SubC.out h s3
  exact key _ _ _ _ List.length_replicate List.length_replicate List.length_replicate List.length_replicate _ (gA_zip vs.length)
end Go.Proofs.Ytoikjjpleonllaa

/- The text RAt. -/
set_option linter.unusedVariables false
set_option linter.unusedSimpArgs false
/-! The program's collective and the document's one, side by side. -/
namespace Go.KK
class AtC (A : Asn) (L : List Asn) (f : outParam (Asn → List Asn)) : Prop where out : ∀ B, Rep A B L (f B)
instance AtC.head {A : Asn} {L : List Asn} : AtC A (A :: L) (fun B => B :: L) := ⟨fun _ => .head⟩
instance (priority := 900) AtC.tail {A C : Asn} {L : List Asn} {f : Asn → List Asn} [h : AtC A L f] : AtC A (C :: L) (fun B => C :: f B) := ⟨fun B => .tail (h.out B)⟩
theorem JMi.imp {c : Cx} {F : Fr} {L M : List Asn} {k : List Item} {ops : List Oper} {fuel i m : Nat} {E : List Nat} {Lk : List Asn} (hL : ∀ h, Sat h L → Sat h M) (h : JMi c ops E fuel m i Lk F M k) : JMi c ops E fuel m i Lk F L k := fun a w hse hcl hF hs => h a w hse hcl hF (hL _ hs)
end Go.KK
namespace Rg
open Go Go.KK Gr Go.Proofs.Ytoikjjpleonllaa
def okX (m : Nat) (x : Int) : Prop := 0 ≤ x ∧ x < (m : Int)
instance (m : Nat) (x : Int) : Decidable (okX m x) := inferInstanceAs (Decidable (_ ∧ _))
def stpG (g : Gs) (x : Int) : Gs := if okX g.fly.length x then dlvG g x.toNat else g
def stpR (R : Rs) (x : Int) : Rs := if okX R.fly.length x then dlvR R x.toNat else R
/-- The two, side by side, behind some deliveries. -/
def Both (k o : ByteArray) (root : Int) (vs : List Int) (g : Gs) (R : Rs) : Prop := ∃ t, GF k o root vs t g ∧ SimF vs.length g R ∧ gotL t R
section
variable {k o : ByteArray} {root : Int} {vs : List Int} {g : Gs} {R : Rs}
theorem Both.new (hg : goodN k o root vs) : Both k o root vs (newG k o root vs) (newR k o root vs) := ⟨0, GF_new hg, sim_new hg, gotN hg⟩
theorem SimF.fl {n : Nat} (h : SimF n g R) : R.fly.length = g.fly.length := by rw [h.1.fly, List.length_map]
theorem Both.dlv (h : Both k o root vs g R) {q : Nat} (hq : q < g.fly.length) : Both k o root vs (dlvG g q) (dlvR R q) := by
  obtain ⟨t, h1, h2, h3⟩ := h
  exact ⟨t + 1, GF_dlv h1 hq, sim_dlv h1 h2 hq, dlvR_gotL h2.1.w h3 (by rw [h2.fl]; exact hq)⟩
theorem Both.fl (h : Both k o root vs g R) : R.fly.length = g.fly.length := by obtain ⟨t, h1, h2, h3⟩ := h; exact h2.fl
theorem Both.step (h : Both k o root vs g R) (x : Int) : Both k o root vs (stpG g x) (stpR R x) := by
  unfold stpG stpR
  rw [h.fl]
  by_cases e : okX g.fly.length x
  · rw [if_pos e, if_pos e]; exact h.dlv (by have := e.1; have := e.2; omega)
  · rw [if_neg e, if_neg e]; exact h
/-- What the calls need. -/
theorem Both.use (hg : goodN k o root vs) (h : Both k o root vs g R) : wf g ∧ g.ms.length = vs.length ∧ g.fly.length ≤ 110 ∧ okOp g.op ∧ (¬ g.kind = sScan → 0 ≤ g.root ∧ g.root < (g.ms.length : Int)) ∧ WR vs.length R ∧ R.fly.length = g.fly.length ∧ okOp R.op ∧ (¬ R.kind = sScan → 0 ≤ R.root ∧ R.root < (vs.length : Int)) ∧ (∀ q, (rgot R q).length ≤ 999) ∧ (R.kind = sScan → ∀ q, q < R.fly.length → (msgR R q).ct = false) ∧ prsR R.fly = prs g.fly ∧ R.sent = g.sent ∧ ∀ q, resV g q = resR R q := by
  obtain ⟨t, h1, h2, h3⟩ := h
  obtain ⟨u1, u2, u3, u4, u5, u6, u7⟩ := GF_use hg h1
  refine ⟨u1, u2, u3, u4, u5, h2.1.w, h2.fl, by rw [h2.1.op]; exact u4, fun e => ?_, fun q => by have := h3 q; omega, fun e q hq => ?_, ?_, h2.1.sent, h2.res⟩
  · rw [h2.1.kd] at e
    rw [h2.1.root, ← u2]; exact u5 e
  · rw [msgR_is h2.1 (by rw [← h2.fl]; exact hq)]
    unfold toR
    rw [h2.1.kd] at e
    rw [decide_eq_true e]; simp
  · rw [h2.1.fly]; unfold prsR prs; rw [List.map_map]; rfl
def drG (g : Gs) : Nat → Gs
  | 0 => g
  | i + 1 => dlvG (drG g i) 0
def drR (R : Rs) : Nat → Rs
  | 0 => R
  | i + 1 => dlvR (drR R i) 0
theorem drG_end (hg : goodN k o root vs) : ∀ (N : Nat) {t : Nat} {g : Gs}, GF k o root vs t g → 18 ≤ N + t → ∃ K, K ≤ N ∧ (∀ i, i < K → 0 < (drG g i).fly.length) ∧ (drG g K).fly.length = 0
  | 0, t, g, h, hN => by have := (GF_use hg h).2.2.2.2.2.2; omega
  | N + 1, t, g, h, hN => by
    rcases Nat.eq_zero_or_pos g.fly.length with e | e
    · exact ⟨0, Nat.zero_le _, fun i hi => absurd hi (Nat.not_lt_zero _), e⟩
    · obtain ⟨K, k0, k1, k2⟩ := drG_end hg N (GF_dlv h e) (by omega)
      have hs : ∀ i, drG (dlvG g 0) i = drG g (i + 1) := fun i => by
        induction i with
        | zero => rfl
        | succ i ih => show dlvG (drG (dlvG g 0) i) 0 = dlvG (drG g (i + 1)) 0; rw [ih]
      refine ⟨K + 1, by omega, fun i hi => ?_, by rw [← hs]; exact k2⟩
      cases i with
      | zero => exact e
      | succ i => rw [← hs]; exact k1 i (by omega)
theorem Both.dr (h : Both k o root vs g R) {K : Nat} (hK : ∀ i, i < K → 0 < (drG g i).fly.length) : ∀ i, i ≤ K → Both k o root vs (drG g i) (drR R i)
  | 0, _ => h
  | i + 1, hi => (Both.dr h hK i (by omega)).dlv (hK i (by omega))
end
end Rg
namespace Go.Proofs.Ytoikjjpleonllaa
open Go Go.KK Gr Rg
section
variable {L : List Asn} {p cm pr n : Nat} {am : Option Addr} {bs : List Nat} {g : Gs} {R : Rs} {f : Asn → List Asn}
theorem result_at [h : AtC (GB p am cm bs g) L f] {q : Int} (hw : wf g) : CallS Try.prog 20 [.pointer (some ⟨p, 0, none⟩), .int .i64 q].toArray L (fun v M => v = .tuple #[.int .i64 (resV g q).1, .int .i64 (resV g q).2] ∧ M = L) :=
  CallS.atR (fun R => result_ok hw) h.out
theorem over_at [h : AtC (GB p am cm bs g) L f] (hw : wf g) : CallS Try.prog 19 [.pointer (some ⟨p, 0, none⟩)].toArray L (fun v M => v = .bool (decide (g.fly.length = 0)) ∧ M = L) :=
  CallS.atR (fun R => over_ok hw) h.out
theorem sent_at [h : AtC (GB p am cm bs g) L f] (hw : wf g) : CallS Try.prog 22 [.pointer (some ⟨p, 0, none⟩)].toArray L (fun v M => v = .int .i64 g.sent ∧ M = L) :=
  CallS.atR (fun R => sent_ok hw) h.out
theorem flying_at [h : AtC (GB p am cm bs g) L f] (hw : wf g) (hf : g.fly.length ≤ 10000) : CallS Try.prog 21 [.pointer (some ⟨p, 0, none⟩)].toArray L (fun v M => ∃ a' c', v = .slice a' g.fly.length c' ∧ M = sl pairE a' c' (prs g.fly) :: L) :=
  (CallS.atN (Q := fun v N => ∃ a' c', v = .slice a' g.fly.length c' ∧ N = sl pairE a' c' (prs g.fly)) (fun R => (flying_ok hw hf).mono fun v M ⟨a, c, h1, h2⟩ => ⟨M, ⟨_, ⟨a, c, h1, rfl⟩, h2⟩, fun _ s => s⟩) h.out).mono fun v M ⟨N, ⟨a, c, h1, h2⟩, h3⟩ => ⟨M, ⟨a, c, h1, by rw [h3, h2]⟩, fun _ s => s⟩
theorem rresult_at [h : AtC (RB p R) L f] {q : Int} (hw : WR n R) : CallS Try.prog 50 [.pointer (some ⟨p, 0, none⟩), .int .i64 q].toArray L (fun v M => v = .tuple #[.int .i64 (resR R q).1, .int .i64 (resR R q).2] ∧ M = L) :=
  CallS.atR (fun R' => rresult_ok hw) h.out
theorem rb_sent [h : AtC (RB p R) L f] : CellIn L ⟨p, 10, none⟩ (.int .i64 R.sent) := fun hh s => by
  obtain ⟨R', p1, _⟩ := (h.out (RB p R)).perm
  have s1 := s.perm p1
  unfold RB at s1
  obtain ⟨q, s1⟩ := Sat.ex s1
  obtain ⟨hq, s1⟩ := Sat.pure s1
  have s2 := Sat.star.1 s1
  have key : ∀ M : List Asn, CellIn (blk p (rC R.kind R.op R.root R.sum.length q.sa q.sc q.ha R.has.length q.hc q.ga R.got.length q.gc q.ra R.rnd.length q.rc q.ba R.beg.length q.bc q.fa R.fly.length q.fc R.sent) :: M) ⟨p, 10, none⟩ (.int .i64 R.sent) := fun M => CellIn.blk rfl
  exact key _ hh s2
theorem rover_at [h : AtC (RB p R) L f] (hw : WR n R) : CallS Try.prog 52 [.pointer (some ⟨p, 0, none⟩)].toArray L (fun v M => v = .bool (decide (R.fly.length = 0)) ∧ M = L) :=
  CallS.atR (fun R' => rover_ok hw) h.out
theorem rflying_at [h : AtC (RB p R) L f] (hw : WR n R) (hf : R.fly.length ≤ 10000) : CallS Try.prog 17 [.pointer (some ⟨p, 0, none⟩)].toArray L (fun v M => ∃ a' c', v = .slice a' R.fly.length c' ∧ M = sl pairE a' c' (prsR R.fly) :: L) :=
  (CallS.atN (Q := fun v N => ∃ a' c', v = .slice a' R.fly.length c' ∧ N = sl pairE a' c' (prsR R.fly)) (fun R' => (rflying_ok hw hf).mono fun v M ⟨a, c, h1, h2⟩ => ⟨M, ⟨_, ⟨a, c, h1, rfl⟩, h2⟩, fun _ s => s⟩) h.out).mono fun v M ⟨N, ⟨a, c, h1, h2⟩, h3⟩ => ⟨M, ⟨a, c, h1, by rw [h3, h2]⟩, fun _ s => s⟩
theorem rdeliver_at [h : AtC (RB p R) L f] (x : Int) (hw : WR n R) (hrt : ¬ R.kind = sScan → 0 ≤ R.root ∧ R.root < (n : Int)) (hcs : R.kind = sScan → ∀ q, q < R.fly.length → (msgR R q).ct = false) (ho : okOp R.op) (hf : R.fly.length ≤ 10000) (hgl : ∀ q, (rgot R q).length ≤ 999) :
    CallS Try.prog 15 [.pointer (some ⟨p, 0, none⟩), .int .i64 x].toArray L (fun v M => v = .int .i64 (if okX R.fly.length x then 0 else 2) ∧ M = f (RB p (stpR R x))) := by
  unfold stpR
  by_cases e : okX R.fly.length x
  · rw [if_pos e, if_pos e]
    obtain ⟨k, rfl⟩ : ∃ k : Nat, x = (k : Int) := ⟨x.toNat, (Int.toNat_of_nonneg e.1).symm⟩
    have hk : k < R.fly.length := by have := e.2; omega
    exact CallS.atM (fun R' => rdeliver_ok hw hk hrt (fun g => hcs g k hk) ho hf hgl) h.out
  · rw [if_neg e, if_neg e]
    have hb : x < 0 ∨ (R.fly.length : Int) ≤ x := by unfold okX at e; omega
    exact CallS.atM (fun R' => rdeliver_bad hw hb) h.out
theorem rdeliver0_at [h : AtC (RB p R) L f] (hw : WR n R) (hk : 0 < R.fly.length) (hrt : ¬ R.kind = sScan → 0 ≤ R.root ∧ R.root < (n : Int)) (hcs : R.kind = sScan → ∀ q, q < R.fly.length → (msgR R q).ct = false) (ho : okOp R.op) (hf : R.fly.length ≤ 10000) (hgl : ∀ q, (rgot R q).length ≤ 999) :
    CallS Try.prog 15 [.pointer (some ⟨p, 0, none⟩), .int .i64 0].toArray L (fun v M => v = .int .i64 0 ∧ M = f (RB p (dlvR R 0))) :=
  CallS.atM (fun R' => rdeliver_ok (k := 0) hw hk hrt (fun g => hcs g 0 hk) ho hf hgl) h.out
end
end Go.Proofs.Ytoikjjpleonllaa

/- The text R8. -/
set_option linter.unusedVariables false
set_option linter.unusedSimpArgs false
set_option maxRecDepth 10000
namespace Go.Proofs.Ytoikjjpleonllaa
open Go Go.KK Gr Rg

theorem deliverG_bad {L : List Asn} {p : Nat} {am : Option Addr} {cm : Nat} {bs : List Nat} {g : Gs} {k : Int} (hw : wf g) (hk : k < 0 ∨ (g.fly.length : Int) ≤ k) :
    CallS Try.prog 14 [.pointer (some ⟨p, 0, none⟩), .int .i64 k].toArray (GB p am cm bs g :: L) (fun v M => v = .int .i64 2 ∧ M = GB p am cm bs g :: L) := by
  have hn8 := hw.2.1
  have hn1 := hw.1
  refine CallS.ent ?_
  refine CallS.enter Try.func14 rfl rfl rfl rfl rfl ?_
  refine GB_open fun af cf hb => ?_
  refine J.seq rfl ?_
  refine J.region rfl ?_
  refine JO.pur rfl rfl rfl (Pur.assign rfl) ?_
  refine JO.nil ?_
  refine J.seq rfl ?_
  refine J.block rfl ?_
  refine J.seq rfl ?_
  refine J.region rfl ?_
  refine JO.pur rfl rfl rfl (Pur.move rfl) ?_
  refine JO.effR rfl rfl rfl (Eff.call rfl (none_ok)) ?_
  refine JO.pur rfl rfl rfl (Pur.assign rfl) ?_
  refine JO.nil ?_
  refine J.setv (u' := .bool false) 7 rfl (congrArg Value.bool (decide_eq_false (by omega))) ?_
  refine J.condF rfl rfl ?_
  refine J.seq rfl ?_
  refine J.region rfl ?_
  refine JO.pur rfl rfl rfl (Pur.move rfl) ?_
  refine JO.pur rfl rfl rfl (Pur.lss rfl rfl) ?_
  refine JO.pur rfl rfl rfl (Pur.move rfl) ?_
  refine JO.splitB 13 rfl (fun h13 => ?_) (fun h13 => ?_)
  · try simp only [bSimp, bSimp2, ne_eq] at h13
    refine JO.no rfl rfl rfl ?_
    refine JO.no rfl rfl rfl ?_
    refine JO.no rfl rfl rfl ?_
    refine JO.no rfl rfl rfl ?_
    refine JO.no rfl rfl rfl ?_
    refine JO.no rfl rfl rfl ?_
    refine JO.no rfl rfl rfl ?_
    refine JO.pur rfl rfl rfl (Pur.pickT rfl rfl) ?_
    refine JO.pur rfl rfl rfl (Pur.assign rfl) ?_
    refine JO.nil ?_
    refine J.condT rfl rfl ?_
    refine J.seq rfl ?_
    refine J.region rfl ?_
    refine JO.pur rfl rfl rfl (Pur.assign rfl) ?_
    refine JO.nil ?_
    refine J.ret rfl rfl ?_
    refine ⟨_, _, ⟨rfl, rfl⟩, rfl, fun h s => GB_mk (af := af) (cf := cf) hb (SubC.out (M := blk p (gC g.kind g.op g.root am g.ms.length cm af g.fly.length cf g.sent) :: sl memE am cm (g.ms.zip bs) :: sl msgE af cf g.fly :: star (List.zipWith mpA bs g.ms) :: L) h s)⟩
  · try simp only [bSimp, bSimp2, ne_eq] at h13
    refine JO.pur rfl rfl rfl (Pur.move rfl) ?_
    refine JO.pur rfl rfl rfl (Pur.move rfl) ?_
    refine JO.pur rfl rfl rfl (Pur.nilCheck rfl) ?_
    refine JO.pur rfl rfl rfl (Pur.fieldAddr rfl) ?_
    refine JO.pur rfl rfl rfl (Pur.load rfl (CellIn.blk rfl)) ?_
    refine JO.pur rfl rfl rfl (Pur.len rfl) ?_
    refine JO.pur rfl rfl rfl (Pur.geq rfl rfl) ?_
    refine JO.pur rfl rfl rfl (Pur.pickF rfl rfl) ?_
    refine JO.pur rfl rfl rfl (Pur.assign rfl) ?_
    refine JO.nil ?_
    refine J.splitB 10 rfl (fun h10 => ?_) (fun h10 => ?_)
    · try simp only [bSimp, bSimp2, ne_eq] at h10
      refine J.condT rfl rfl ?_
      refine J.seq rfl ?_
      refine J.region rfl ?_
      refine JO.pur rfl rfl rfl (Pur.assign rfl) ?_
      refine JO.nil ?_
      refine J.ret rfl rfl ?_
      refine ⟨_, _, ⟨rfl, rfl⟩, rfl, fun h s => GB_mk (af := af) (cf := cf) hb (SubC.out (M := blk p (gC g.kind g.op g.root am g.ms.length cm af g.fly.length cf g.sent) :: sl memE am cm (g.ms.zip bs) :: sl msgE af cf g.fly :: star (List.zipWith mpA bs g.ms) :: L) h s)⟩
    · try simp only [bSimp, bSimp2, ne_eq] at h10
      exfalso; omega

theorem deliver_at {L : List Asn} {p cm : Nat} {am : Option Addr} {bs : List Nat} {g : Gs} {f : Asn → List Asn} [h : AtC (GB p am cm bs g) L f] (x : Int) (hw : wf g) (hrt : ¬ g.kind = sScan → 0 ≤ g.root ∧ g.root < (g.ms.length : Int)) (ho : okOp g.op) (hf : g.fly.length ≤ 5000) :
    CallS Try.prog 14 [.pointer (some ⟨p, 0, none⟩), .int .i64 x].toArray L (fun v M => v = .int .i64 (if okX g.fly.length x then 0 else 2) ∧ M = f (GB p am cm bs (stpG g x))) := by
  unfold stpG
  by_cases e : okX g.fly.length x
  · rw [if_pos e, if_pos e]
    obtain ⟨k, rfl⟩ : ∃ k : Nat, x = (k : Int) := ⟨x.toNat, (Int.toNat_of_nonneg e.1).symm⟩
    have hk : k < g.fly.length := by have := e.2; omega
    exact CallS.atM (fun R' => deliverG_ok hw hk hrt ho hf) h.out
  · rw [if_neg e, if_neg e]
    have hb : x < 0 ∨ (g.fly.length : Int) ≤ x := by unfold okX at e; omega
    exact CallS.atM (fun R' => deliverG_bad hw hb) h.out
theorem drainG_ok {L : List Asn} {p : Nat} {am : Option Addr} {cm : Nat} {bs : List Nat} {g : Gs} {k o : ByteArray} {root : Int} {vs : List Int} {R : Rs} {K : Nat} (hg : goodN k o root vs) (hB : Both k o root vs g R) (hpos : ∀ i, i < K → 0 < (drG g i).fly.length) (hend : (drG g K).fly.length = 0) (hK : K ≤ 100) :
    CallS Try.prog 16 [.pointer (some ⟨p, 0, none⟩)].toArray (GB p am cm bs g :: L) (fun v M => v = .tuple #[.int .i64 (K : Int), .int .i64 0] ∧ M = GB p am cm bs (drG g K) :: L) := by
  obtain ⟨k1, _⟩ := Both.use hg (Both.dr hB hpos 0 (Nat.zero_le _))
  have hw : wf g := k1
  have hn8 := hw.2.1
  have hn1 := hw.1
  refine CallS.ent ?_
  refine CallS.enter Try.func16 rfl rfl rfl rfl rfl ?_
  refine GB_open fun af cf hb => ?_
  refine J.seq rfl ?_
  refine J.region rfl ?_
  refine JO.pur rfl rfl rfl (Pur.assign rfl) ?_
  refine JO.pur rfl rfl rfl (Pur.assign rfl) ?_
  refine JO.nil ?_
  refine J.seq rfl ?_
  refine J.seq rfl ?_
  refine J.region rfl ?_
  refine JO.pur rfl rfl rfl (Pur.move rfl) ?_
  refine JO.effR rfl rfl rfl (Eff.call rfl (none_ok)) ?_
  refine JO.nil ?_
  refine J.setv (u' := .bool false) 6 rfl (congrArg Value.bool (decide_eq_false (by omega))) ?_
  refine J.condF rfl rfl ?_
  refine J.skip rfl ?_
  refine J.seq rfl ?_
  refine J.region rfl ?_
  refine JO.pur rfl rfl rfl (Pur.assign rfl) ?_
  refine JO.nil ?_
  refine J.seq rfl ?_
  refine J.block rfl ?_
  refine J.loopF (ι := Nat) (fun q => q ≤ K) (fun q => [(4, .int .i64 (q : Int))]) [(0, _)] (fun q => GB p am cm bs (drG g q) :: L) (fun q => K - q) 0 rfl (.cons rfl rfl .nil) (.cons rfl rfl .nil) (fun h s => GB_mk (af := af) (cf := cf) hb (SubC.out (M := blk p (gC g.kind g.op g.root am g.ms.length cm af g.fly.length cf g.sent) :: sl memE am cm (g.ms.zip bs) :: sl msgE af cf g.fly :: star (List.zipWith mpA bs g.ms) :: L) h s)) (Nat.zero_le _) ?_
  rintro q hq ihq
  try dsimp only
  obtain ⟨k1, k2, k3, k4, k5, _⟩ := Both.use hg (Both.dr hB hpos q hq)
  have hqk : 0 < (drG g q).fly.length ↔ q < K := ⟨fun e => Classical.byContradiction fun n => by obtain rfl : q = K := (by omega); omega, fun e => hpos q e⟩
  refine GB_open fun af cf hb => ?_
  refine J.seq rfl ?_
  refine J.seq rfl ?_
  refine J.region rfl ?_
  refine JO.pur rfl rfl rfl (Pur.move rfl) ?_
  refine JO.pur rfl rfl rfl (Pur.nilCheck rfl) ?_
  refine JO.pur rfl rfl rfl (Pur.fieldAddr rfl) ?_
  refine JO.pur rfl rfl rfl (Pur.load rfl (CellIn.blk rfl)) ?_
  refine JO.pur rfl rfl rfl (Pur.len rfl) ?_
  refine JO.pur rfl rfl rfl (Pur.gtr rfl rfl) ?_
  refine JO.nil ?_
  refine J.splitB 12 rfl (fun h12 => ?_) (fun h12 => ?_)
  · try simp only [bSimp, bSimp2, ne_eq] at h12
    refine J.condT rfl rfl ?_
    refine J.skip rfl ?_
    refine J.seq rfl ?_
    refine J.block rfl ?_
    refine J.region rfl ?_
    refine JO.pur rfl rfl rfl (Pur.move rfl) ?_
    refine JO.imp (M := GB p am cm bs (drG g q) :: L) (fun h s => GB_mk (af := af) (cf := cf) hb (SubC.out (M := blk p (gC (drG g q).kind (drG g q).op (drG g q).root am (drG g q).ms.length cm af (drG g q).fly.length cf (drG g q).sent) :: sl memE am cm ((drG g q).ms.zip bs) :: sl msgE af cf (drG g q).fly :: star (List.zipWith mpA bs (drG g q).ms) :: L) h s)) ?_
    refine JO.eff rfl rfl rfl (Eff.call rfl (deliverG_ok (g := drG g q) (k := 0) k1 (by omega) k5 k4 (by omega))) ?_
    rintro _ _ ⟨rfl, rfl⟩
    refine JO.nil ?_
    refine J.inBlock ?_
    refine J.region rfl ?_
    refine JO.pur rfl rfl rfl (Pur.move rfl) ?_
    refine JO.pur rfl rfl rfl (Pur.add rfl rfl (wr64 (by omega))) ?_
    refine JO.pur rfl rfl rfl (Pur.assign rfl) ?_
    refine JO.nil ?_
    exact J.weaken (.cons rfl (congrArg (Value.int .i64) (by first | rfl | (dsimp only; omega))) (.cons rfl rfl .nil)) (fun h s => by rw [drG]; exact SubC.out h s) (ihq (q + 1) (by omega) (by omega))
  · try simp only [bSimp, bSimp2, ne_eq] at h12
    refine J.condF rfl rfl ?_
    refine J.exit rfl rfl ?_
    refine J.seq rfl ?_
    refine J.region rfl ?_
    refine JO.pur rfl rfl rfl (Pur.move rfl) ?_
    refine JO.pur rfl rfl rfl (Pur.assign rfl) ?_
    refine JO.pur rfl rfl rfl (Pur.assign rfl) ?_
    refine JO.nil ?_
    refine J.ret rfl rfl ?_
    obtain rfl : q = K := by omega
    refine ⟨_, _, ⟨rfl, rfl⟩, rfl, fun h s => GB_mk (af := af) (cf := cf) hb (SubC.out (M := blk p (gC (drG g q).kind (drG g q).op (drG g q).root am (drG g q).ms.length cm af (drG g q).fly.length cf (drG g q).sent) :: sl memE am cm ((drG g q).ms.zip bs) :: sl msgE af cf (drG g q).fly :: star (List.zipWith mpA bs (drG g q).ms) :: L) h s)⟩

theorem alike_ok {L : List Asn} {p pr cm : Nat} {am : Option Addr} {bs : List Nat} {g : Gs} {R : Rs} {k o : ByteArray} {root : Int} {vs : List Int} {n : Int} (hn : n = (vs.length : Int)) (hg : goodN k o root vs) (hB : Both k o root vs g R) :
    CallS Try.prog 13 [.pointer (some ⟨p, 0, none⟩), .pointer (some ⟨pr, 0, none⟩), .int .i64 n].toArray (GB p am cm bs g :: RB pr R :: L) (fun v M => v = .bool true ∧ M = GB p am cm bs g :: RB pr R :: L) := by
  subst hn
  obtain ⟨k1, k2, k3, k4, k5, k6, k7, k8, k9, k10, k11, k12, k13, k14⟩ := Both.use hg hB
  have hv8 : vs.length ≤ 8 := by have := k1.2.1; omega
  refine CallS.ent ?_
  refine CallS.enter Try.func13 rfl rfl rfl rfl rfl ?_
  refine J.seq rfl ?_
  refine J.region rfl ?_
  refine JO.pur rfl rfl rfl (Pur.assign rfl) ?_
  refine JO.nil ?_
  refine J.seq rfl ?_
  refine J.seq rfl ?_
  refine J.region rfl ?_
  refine JO.pur rfl rfl rfl (Pur.assign rfl) ?_
  refine JO.nil ?_
  refine J.block rfl ?_
  refine J.loopF (ι := Nat) (fun q => q ≤ vs.length + 2) (fun q => [(7, .int .i64 ((q : Int) - 1))]) [(0, _), (1, _), (2, _)] (fun q => GB p am cm bs g :: RB pr R :: L) (fun q => vs.length + 2 - q) 0 rfl (.cons rfl rfl (.cons rfl rfl (.cons rfl rfl .nil))) (.cons rfl rfl .nil) (by first | exact fun _ h => h | exact SubC.out | (dsimp only; exact SubC.out)) (Nat.zero_le _) ?_
  rintro q hq ihq
  try dsimp only
  refine J.seq rfl ?_
  refine J.seq rfl ?_
  refine J.region rfl ?_
  refine JO.pur rfl rfl rfl (Pur.move rfl) ?_
  refine JO.pur rfl rfl rfl (Pur.move rfl) ?_
  refine JO.pur rfl rfl rfl (Pur.leq rfl rfl) ?_
  refine JO.nil ?_
  refine J.splitB 14 rfl (fun h14 => ?_) (fun h14 => ?_)
  · try simp only [bSimp, bSimp2, ne_eq] at h14
    refine J.condT rfl rfl ?_
    refine J.skip rfl ?_
    refine J.seq rfl ?_
    refine J.block rfl ?_
    refine J.seq rfl ?_
    refine J.region rfl ?_
    refine JO.pur rfl rfl rfl (Pur.move rfl) ?_
    refine JO.pur rfl rfl rfl (Pur.move rfl) ?_
    refine JO.effR rfl rfl rfl (Eff.call rfl (result_at (p := p) (am := am) (cm := cm) (bs := bs) (g := g) (q := ((q : Int) - 1)) k1)) ?_
    refine JO.pur rfl rfl rfl (Pur.move rfl) ?_
    refine JO.pur rfl rfl rfl (Pur.extract rfl rfl) ?_
    refine JO.pur rfl rfl rfl (Pur.extract rfl rfl) ?_
    refine JO.pur rfl rfl rfl (Pur.assign rfl) ?_
    refine JO.pur rfl rfl rfl (Pur.assign rfl) ?_
    refine JO.nil ?_
    refine J.seq rfl ?_
    refine J.region rfl ?_
    refine JO.pur rfl rfl rfl (Pur.move rfl) ?_
    refine JO.pur rfl rfl rfl (Pur.move rfl) ?_
    refine JO.effR rfl rfl rfl (Eff.call rfl (rresult_at (p := pr) (R := R) (q := ((q : Int) - 1)) k6)) ?_
    rw [← k14]
    refine JO.pur rfl rfl rfl (Pur.move rfl) ?_
    refine JO.pur rfl rfl rfl (Pur.extract rfl rfl) ?_
    refine JO.pur rfl rfl rfl (Pur.extract rfl rfl) ?_
    refine JO.pur rfl rfl rfl (Pur.assign rfl) ?_
    refine JO.pur rfl rfl rfl (Pur.assign rfl) ?_
    refine JO.nil ?_
    refine J.seq rfl ?_
    refine J.region rfl ?_
    refine JO.pur rfl rfl rfl (Pur.move rfl) ?_
    refine JO.pur rfl rfl rfl (Pur.move rfl) ?_
    refine JO.pur rfl rfl rfl (Pur.neqI rfl rfl) ?_
    refine JO.pur rfl rfl rfl (Pur.move rfl) ?_
    refine JO.setv (u' := .bool false) 32 rfl (congrArg Value.bool (decide_eq_false (fun e => e rfl))) ?_
    refine JO.pur rfl rfl rfl (Pur.move rfl) ?_
    refine JO.pur rfl rfl rfl (Pur.move rfl) ?_
    refine JO.pur rfl rfl rfl (Pur.neqI rfl rfl) ?_
    refine JO.pur rfl rfl rfl (Pur.pickF rfl rfl) ?_
    refine JO.nil ?_
    refine J.splitB 36 rfl (fun h36 => ?_) (fun h36 => ?_)
    · try simp only [bSimp, bSimp2, ne_eq] at h36
      first
      | exact absurd rfl h36
      | (exfalso; simp at h36)
    · try simp only [bSimp, bSimp2, ne_eq] at h36
      refine J.condF rfl rfl ?_
      refine J.skip rfl ?_
      refine J.inBlock ?_
      refine J.region rfl ?_
      refine JO.pur rfl rfl rfl (Pur.move rfl) ?_
      refine JO.pur rfl rfl rfl (Pur.add rfl rfl (wr64 (by omega))) ?_
      refine JO.pur rfl rfl rfl (Pur.assign rfl) ?_
      refine JO.nil ?_
      exact J.weaken (.cons rfl (congrArg (Value.int .i64) (by omega)) (.cons rfl rfl (.cons rfl rfl (.cons rfl rfl .nil)))) (fun h s => SubC.out h s) (ihq (q + 1) (by omega) (by omega))
  · try simp only [bSimp, bSimp2, ne_eq] at h14
    refine J.condF rfl rfl ?_
    refine J.exit rfl rfl ?_
    refine J.seq rfl ?_
    refine J.mask0 (n := 22) [] rfl Try.mixed rfl (by kernel_rfl) ?_
    refine JM.take 0 (fun _ h => h) rfl (by kernel_rfl) rfl rfl rfl (m' := 1) rfl (Pur.move rfl) ?_
    refine JM.take 2 (fun _ h => h) rfl (by kernel_rfl) rfl rfl rfl (m' := 5) rfl (Pur.move rfl) ?_
    refine JM.one (i := 1) (by kernel_rfl) ?_
    refine JMi.eff rfl rfl rfl rfl (m' := 7) rfl (Eff.call rfl (flying_at (p := p) (am := am) (cm := cm) (bs := bs) (g := g) k1 (by omega))) ?_
    rintro _ _ ⟨a38, c38, rfl, rfl⟩
    refine ⟨.inr (fun _ h => h.tail), ?_⟩
    refine JM.one (i := 3) (by kernel_rfl) ?_
    refine JMi.eff rfl rfl rfl rfl (m' := 15) rfl (Eff.call rfl (rflying_at (p := pr) (R := R) k6 (by omega))) ?_
    rintro _ _ ⟨a40, c40, rfl, rfl⟩
    refine ⟨.inr (fun _ h => h.tail.tail), ?_⟩
    refine JM.one (i := 4) (by kernel_rfl) ?_
    refine JMi.effR (fun _ h => h.tail.tail) rfl rfl rfl rfl (m' := 31) rfl (Eff.call rfl (pairs_ok (xs := prs g.fly) (ys := prsR R.fly) (by simp [prs]) (by simp [prsR]) (by simp [prs]; omega))) ?_
    refine JM.take 5 (fun _ h => h.tail.tail) rfl (by kernel_rfl) rfl rfl rfl (m' := 63) rfl (Pur.move rfl) ?_
    refine JM.splitB 42 rfl (fun h42 => ?_) (fun h42 => ?_)
    · try simp only [bSimp, bSimp2, ne_eq] at h42
      refine JM.take 6 (fun _ h => h.tail.tail) rfl (by kernel_rfl) rfl rfl rfl (m' := 127) rfl (Pur.move rfl) ?_
      refine JM.take 8 (fun _ h => h.tail.tail) rfl (by kernel_rfl) rfl rfl rfl (m' := 383) rfl (Pur.move rfl) ?_
      refine JM.one (i := 7) (by kernel_rfl) ?_
      refine JMi.effR (fun _ h => h.tail.tail) rfl rfl rfl rfl (m' := 511) rfl (Eff.call rfl (over_at (p := p) (am := am) (cm := cm) (bs := bs) (g := g) k1)) ?_
      refine JM.one (i := 9) (by kernel_rfl) ?_
      refine JMi.effR (fun _ h => h.tail.tail) rfl rfl rfl rfl (m' := 1023) rfl (Eff.call rfl (rover_at (p := pr) (R := R) k6)) ?_
      refine JM.take 10 (fun _ h => h.tail.tail) rfl (by kernel_rfl) rfl rfl rfl (m' := 2047) rfl (Pur.eqlB rfl rfl) ?_
      refine JM.take 11 (fun _ h => h.tail.tail) rfl (by kernel_rfl) rfl rfl rfl (m' := 4095) rfl (Pur.pickT rfl rfl) ?_
      refine JM.take 12 (fun _ h => h.tail.tail) rfl (by kernel_rfl) rfl rfl rfl (m' := 8191) rfl (Pur.move rfl) ?_
      refine JM.splitB 49 rfl (fun h49 => ?_) (fun h49 => ?_)
      · try simp only [bSimp, bSimp2, ne_eq] at h49
        refine JM.take 13 (fun _ h => h.tail.tail) rfl (by kernel_rfl) rfl rfl rfl (m' := 16383) rfl (Pur.move rfl) ?_
        refine JM.take 15 (fun _ h => h.tail.tail) rfl (by kernel_rfl) rfl rfl rfl (m' := 49151) rfl (Pur.move rfl) ?_
        refine JM.take 16 (fun _ h => h.tail.tail) rfl (by kernel_rfl) rfl rfl rfl (m' := 114687) rfl (Pur.nilCheck rfl) ?_
        refine JM.take 17 (fun _ h => h.tail.tail) rfl (by kernel_rfl) rfl rfl rfl (m' := 245759) rfl (Pur.fieldAddr rfl) ?_
        refine JM.take 18 (fun _ h => h.tail.tail) rfl (by kernel_rfl) rfl rfl rfl (m' := 507903) rfl (Pur.load rfl (rb_sent (p := pr) (R := R))) ?_
        refine JM.one (i := 14) (by kernel_rfl) ?_
        refine JMi.effR (fun _ h => h.tail.tail) rfl rfl rfl rfl (m' := 524287) rfl (Eff.call rfl (sent_at (p := p) (am := am) (cm := cm) (bs := bs) (g := g) k1)) ?_
        refine JM.take 19 (fun _ h => h.tail.tail) rfl (by kernel_rfl) rfl rfl rfl (m' := 1048575) rfl (Pur.eqlI rfl rfl) ?_
        refine JM.take 20 (fun _ h => h.tail.tail) rfl (by kernel_rfl) rfl rfl rfl (m' := 2097151) rfl (Pur.pickT rfl rfl) ?_
        refine JM.take 21 (fun _ h => h.tail.tail) rfl (by kernel_rfl) rfl rfl rfl (m' := 4194303) rfl (Pur.assign rfl) ?_
        refine JM.done rfl ?_
        refine J.ret rfl rfl ?_
        refine ⟨_, _, ⟨rfl, rfl⟩, ?_, SubC.out⟩
        exact congrArg Value.bool (by simp [k13])
      · try simp only [bSimp, bSimp2, ne_eq] at h49
        first
        | exact absurd trivial h49
        | (exfalso; simp [k7] at h49)
        | (exfalso; apply h49; rw [k7])
    · try simp only [bSimp, bSimp2, ne_eq] at h42
      exact absurd k12.symm h42

end Go.Proofs.Ytoikjjpleonllaa
