/-
  A part of the proof of the claim that this folder bears.
-/
import Derived.Test.YtbmepcipnnlcnaaDoorPAE
import Derived.Test.YtbmepcipnnlcnaaDoorPAD
/- The text J6. -/
set_option linter.unusedVariables false
set_option linter.unusedSimpArgs false
set_option maxRecDepth 10000
namespace Go.Proofs.YtbmepcipnnlcnaaDoor
open Go Go.KK Sg

theorem waysOf_ok {L : List Asn} {s : Sn} {fs ac : List Fm} {aa : Option Addr} {n cap : Nat} [SlIn fmE L s.h.a fs] [SlIn fmE L aa ac] (hsn : s.h.n = fs.length) (hn : n = ac.length) (hb : fs.length ≤ 9223372036854775807) (ha : ac.length ≤ 20) :
    CallS Tryd.prog 9 [.agg #[.string s.nm, .slice s.h.a s.h.n s.h.cap, .string s.rs], .slice aa n cap].toArray L (fun v M => ∃ ra rc, v = .tuple #[.slice ra (wayR fs ac).length rc, .bool (fitsB fs ac)] ∧ M = sl intE ra rc (wayR fs ac) :: L) := by
  subst hn
  refine CallS.ent ?_
  refine CallS.enter Tryd.func9 rfl rfl rfl rfl rfl ?_
  refine J.seq rfl ?_
  refine J.region rfl ?_
  refine JO.eff rfl rfl rfl (Eff.box (cs := [_, _, _]) rfl rfl) ?_
  rintro _ _ ⟨b2, rfl, rfl⟩
  refine JO.pur rfl rfl rfl (Pur.assign rfl) ?_
  refine JO.pur rfl rfl rfl (Pur.assign rfl) ?_
  refine JO.nil ?_
  refine J.seq rfl ?_
  refine J.seq rfl ?_
  refine J.region rfl ?_
  refine JO.pur rfl rfl rfl (Pur.move rfl) ?_
  refine JO.pur rfl rfl rfl (Pur.len rfl) ?_
  refine JO.pur rfl rfl rfl (Pur.fieldAddr rfl) ?_
  refine JO.pur rfl rfl rfl (Pur.load rfl (CellIn.blk rfl)) ?_
  refine JO.pur rfl rfl rfl (Pur.len rfl) ?_
  refine JO.pur rfl rfl rfl (Pur.neqI rfl rfl) ?_
  refine JO.nil ?_
  refine J.splitB 16 rfl (fun h16 => ?_) (fun h16 => ?_)
  · try simp only [decide_eq_true_eq, decide_eq_false_iff_not, Bool.not_eq_true', Bool.not_eq_false', Bool.and_eq_true, Bool.or_eq_true, Bool.and_eq_false_iff, Bool.or_eq_false_iff, Option.isNone_some, Option.isSome_some, Option.isNone_none, Option.isSome_none, Int.not_lt, Int.not_le, beq_iff_eq, beq_eq_false_iff_ne, bne_iff_ne, ne_eq, Bool.not_not, Decidable.not_not] at h16
    have hf := fitsB_ne (fs := fs) (ac := ac) (by omega)
    refine J.condT rfl rfl ?_
    refine J.seq rfl ?_
    refine J.region rfl ?_
    refine JO.pur rfl rfl rfl (Pur.assign rfl) ?_
    refine JO.pur rfl rfl rfl (Pur.assign rfl) ?_
    refine JO.nil ?_
    refine J.ret rfl rfl ?_
    have hw : wayR fs ac = [] := by unfold wayR; rw [hf]; rfl
    exact ⟨_, _, ⟨none, 0, by rw [hf, hw]; rfl, rfl⟩, rfl, fun h s => by rw [hw]; exact sl_nil_new (SubC.out h s)⟩
  · try simp only [decide_eq_true_eq, decide_eq_false_iff_not, Bool.not_eq_true', Bool.not_eq_false', Bool.and_eq_true, Bool.or_eq_true, Bool.and_eq_false_iff, Bool.or_eq_false_iff, Option.isNone_some, Option.isSome_some, Option.isNone_none, Option.isSome_none, Int.not_lt, Int.not_le, beq_iff_eq, beq_eq_false_iff_ne, bne_iff_ne, ne_eq, Bool.not_not, Decidable.not_not] at h16
    have hlen : ac.length = fs.length := by omega
    refine J.condF rfl rfl ?_
    refine J.skip rfl ?_
    refine J.seq rfl ?_
    refine J.region rfl ?_
    refine JO.pur rfl rfl rfl (Pur.assign rfl) ?_
    refine JO.nil ?_
    refine J.seq rfl ?_
    refine J.seq rfl ?_
    refine J.region rfl ?_
    refine JO.pur rfl rfl rfl (Pur.fieldAddr rfl) ?_
    refine JO.pur rfl rfl rfl (Pur.load rfl (CellIn.blk rfl)) ?_
    refine JO.pur rfl rfl rfl (Pur.len rfl) ?_
    refine JO.pur rfl rfl rfl (Pur.move rfl) ?_
    refine JO.nil ?_
    refine J.block rfl ?_
    refine J.loopF (ι := Nat × Option Addr × Nat) (fun q => q.1 ≤ fs.length ∧ ((fs.zip ac).take q.1).all (fun p : Fm × Fm => (fitW p.1 p.2).2) = true) (fun q => [(6, .slice q.2.1 q.1 q.2.2), (20, .int .i64 (q.1 : Int))]) [(1, _), (18, _), (19, _)] (fun q => sl intE q.2.1 q.2.2 ((wayL fs ac).take q.1) :: blk b2 (.cells #[.string s.nm, .slice s.h.a s.h.n s.h.cap, .string s.rs] 25 (0, 0)) :: L) (fun q => fs.length - q.1) (0, none, 0) rfl (.cons rfl rfl (.cons rfl rfl (.cons rfl rfl .nil))) (.cons rfl rfl (.cons rfl rfl .nil)) (fun h s => sl_nil_new s) ⟨Nat.zero_le _, rfl⟩ ?_
    rintro ⟨q, a6, c6⟩ ⟨hq, hal⟩ ihq
    try dsimp only
    dsimp only at hq hal
    have hwl : ((wayL fs ac).take q).length = q := by rw [List.length_take, way_len hlen]; omega
    refine J.seq rfl ?_
    refine J.region rfl ?_
    refine JO.pur rfl rfl rfl (Pur.lss rfl rfl) ?_
    refine JO.nil ?_
    refine J.seq rfl ?_
    refine J.splitB 21 rfl (fun h21 => ?_) (fun h21 => ?_)
    · try simp only [decide_eq_true_eq, decide_eq_false_iff_not, Bool.not_eq_true', Bool.not_eq_false', Bool.and_eq_true, Bool.or_eq_true, Bool.and_eq_false_iff, Bool.or_eq_false_iff, Option.isNone_some, Option.isSome_some, Option.isNone_none, Option.isSome_none, Int.not_lt, Int.not_le, beq_iff_eq, beq_eq_false_iff_ne, bne_iff_ne, ne_eq, Bool.not_not, Decidable.not_not] at h21
      have hql : q < fs.length := by omega
      obtain ⟨x, hX⟩ : ∃ x, fs[q]? = some x := ⟨_, List.getElem?_eq_getElem hql⟩
      obtain ⟨y, hY⟩ : ∃ y, ac[q]? = some y := ⟨_, List.getElem?_eq_getElem (by omega)⟩
      refine J.condT rfl rfl ?_
      refine J.skip rfl ?_
      refine J.seq rfl ?_
      refine J.block rfl ?_
      refine J.seq rfl ?_
      refine J.region rfl ?_
      refine JO.pur rfl rfl rfl (Pur.move rfl) ?_
      refine JO.pur rfl rfl rfl (Pur.idx rfl rfl rfl (by first | rfl | (simp; done) | omega) rfl (by omega)) ?_
      refine JO.pur rfl rfl rfl (Pur.loadA rfl rfl rfl (CellsIn.el rfl hX)) ?_
      refine JO.setv (u' := fmV x) 24 rfl rfl ?_
      refine JO.eff rfl rfl rfl (Eff.alloc (cs := [_, _]) rfl) ?_
      rintro _ _ ⟨b8, rfl, rfl⟩
      refine JO.pur rfl rfl rfl (Pur.assign rfl) ?_
      refine JO.effN rfl rfl (Eff.storeBA (cs' := [_, _]) rfl rfl (by rfl) (by rfl) (by rfl)) ?_
      rintro _ _ ⟨rfl, rfl⟩
      refine JO.nil ?_
      refine J.seq rfl ?_
      refine J.mask0 (n := 11) [] rfl Tryd.mixed rfl (by kernel_rfl) ?_
      refine JM.take 0 (fun _ h => h) rfl (by kernel_rfl) rfl rfl rfl (m' := 1) rfl (Pur.loadA rfl rfl rfl CellsIn.blk) ?_
      refine JM.take 1 (fun _ h => h) rfl (by kernel_rfl) rfl rfl rfl (m' := 3) rfl (Pur.move rfl) ?_
      refine JM.take 2 (fun _ h => h) rfl (by kernel_rfl) rfl rfl rfl (m' := 7) rfl (Pur.move rfl) ?_
      refine JM.take 3 (fun _ h => h) rfl (by kernel_rfl) rfl rfl rfl (m' := 15) rfl (Pur.idx rfl rfl rfl (by first | rfl | (simp; done) | omega) rfl (by omega)) ?_
      refine JM.take 4 (fun _ h => h) rfl (by kernel_rfl) rfl rfl rfl (m' := 31) rfl (Pur.loadA rfl rfl rfl (CellsIn.el rfl hY)) ?_
      refine JM.setv (u' := fmV y) 30 rfl rfl ?_
      refine JM.one (i := 5) (by kernel_rfl) ?_
      refine JMi.effR (fun _ h => h) rfl rfl rfl rfl (m' := 63) rfl (Eff.call rfl (fits_ok x y)) ?_
      refine JM.take 6 (fun _ h => h) rfl (by kernel_rfl) rfl rfl rfl (m' := 127) rfl (Pur.move rfl) ?_
      refine JM.take 7 (fun _ h => h) rfl (by kernel_rfl) rfl rfl rfl (m' := 255) rfl (Pur.extract rfl rfl) ?_
      refine JM.take 8 (fun _ h => h) rfl (by kernel_rfl) rfl rfl rfl (m' := 511) rfl (Pur.extract rfl rfl) ?_
      refine JM.take 9 (fun _ h => h) rfl (by kernel_rfl) rfl rfl rfl (m' := 1023) rfl (Pur.assign rfl) ?_
      refine JM.take 10 (fun _ h => h) rfl (by kernel_rfl) rfl rfl rfl (m' := 2047) rfl (Pur.assign rfl) ?_
      refine JM.done rfl ?_
      refine J.seq rfl ?_
      refine J.seq rfl ?_
      refine J.region rfl ?_
      refine JO.pur rfl rfl rfl (Pur.move rfl) ?_
      refine JO.pur rfl rfl rfl (Pur.not rfl) ?_
      refine JO.nil ?_
      refine J.splitB 35 rfl (fun h35 => ?_) (fun h35 => ?_)
      · try simp only [decide_eq_true_eq, decide_eq_false_iff_not, Bool.not_eq_true', Bool.not_eq_false', Bool.and_eq_true, Bool.or_eq_true, Bool.and_eq_false_iff, Bool.or_eq_false_iff, Option.isNone_some, Option.isSome_some, Option.isNone_none, Option.isSome_none, Int.not_lt, Int.not_le, beq_iff_eq, beq_eq_false_iff_ne, bne_iff_ne, ne_eq, Bool.not_not, Decidable.not_not] at h35
        have hf := fitsB_no hX hY (by simpa using ‹_›)
        refine J.condT rfl rfl ?_
        refine J.seq rfl ?_
        refine J.region rfl ?_
        refine JO.pur rfl rfl rfl (Pur.assign rfl) ?_
        refine JO.pur rfl rfl rfl (Pur.assign rfl) ?_
        refine JO.nil ?_
        refine J.ret rfl rfl ?_
        have hw : wayR fs ac = [] := by unfold wayR; rw [hf]; rfl
        exact ⟨_, _, ⟨none, 0, by rw [hf, hw]; rfl, rfl⟩, rfl, fun h s => by rw [hw]; exact sl_nil_new (SubC.out h s)⟩
      · try simp only [decide_eq_true_eq, decide_eq_false_iff_not, Bool.not_eq_true', Bool.not_eq_false', Bool.and_eq_true, Bool.or_eq_true, Bool.and_eq_false_iff, Bool.or_eq_false_iff, Option.isNone_some, Option.isSome_some, Option.isNone_none, Option.isSome_none, Int.not_lt, Int.not_le, beq_iff_eq, beq_eq_false_iff_ne, bne_iff_ne, ne_eq, Bool.not_not, Decidable.not_not] at h35
        refine J.condF rfl rfl ?_
        refine J.skip rfl ?_
        refine J.region rfl ?_
        refine JO.pur rfl rfl rfl (Pur.move rfl) ?_
        refine JO.pur rfl rfl rfl (Pur.move rfl) ?_
        refine JO.eff rfl rfl rfl (Eff.buildSlice intE [(fitW x y).1] rfl rfl rfl rfl rfl rfl rfl) ?_
        rintro _ _ ⟨b38, rfl, -, rfl⟩
        refine JO.eff rfl rfl rfl (Eff.append rfl rfl rfl rfl (by first | rfl | omega | (simp; done) | (simp; omega)) (by first | rfl | omega | (simp; done) | (simp; omega)) (by decide) (by first | omega | (simp only [List.length_cons, List.length_nil]; omega) | (simp; omega)) (by first | omega | (simp only [List.length_cons, List.length_nil]; omega) | (simp; omega)) (fun h => by cases h)) ?_
        rintro _ _ ⟨a39, c39, rfl, rfl⟩
        refine JO.pur rfl rfl rfl (Pur.assign rfl) ?_
        refine JO.nil ?_
        refine J.inBlock ?_
        refine J.region rfl ?_
        refine JO.pur rfl rfl rfl (Pur.add rfl rfl (wr64 (by omega))) ?_
        refine JO.pur rfl rfl rfl (Pur.move rfl) ?_
        refine JO.nil ?_
        exact J.weaken (.cons rfl (congrArg (fun z => Value.slice a39 z c39) (by simp only [List.length_cons, List.length_nil]; omega)) (.cons rfl (congrArg (Value.int .i64) (by first | rfl | (dsimp only; omega))) (.cons rfl rfl (.cons rfl rfl (.cons rfl rfl .nil))))) (fun h s => by dsimp only; rw [take_get (way_get hX hY)]; exact SubC.out h s) (ihq (q + 1, a39, c39) ⟨by dsimp only; omega, all_step (zip_get hX hY) hal (by simpa using ‹_›)⟩ (by dsimp only; omega))
    · try simp only [decide_eq_true_eq, decide_eq_false_iff_not, Bool.not_eq_true', Bool.not_eq_false', Bool.and_eq_true, Bool.or_eq_true, Bool.and_eq_false_iff, Bool.or_eq_false_iff, Option.isNone_some, Option.isSome_some, Option.isNone_none, Option.isSome_none, Int.not_lt, Int.not_le, beq_iff_eq, beq_eq_false_iff_ne, bne_iff_ne, ne_eq, Bool.not_not, Decidable.not_not] at h21
      have hf := fitsB_yes hlen (by omega) hal
      have hw : wayR fs ac = wayL fs ac := by unfold wayR; rw [hf]; rfl
      have htl : ((wayL fs ac).take q) = wayL fs ac := List.take_of_length_le (by rw [way_len hlen]; omega)
      refine J.condF rfl rfl ?_
      refine J.exit rfl rfl ?_
      refine J.seq rfl ?_
      refine J.region rfl ?_
      refine JO.pur rfl rfl rfl (Pur.move rfl) ?_
      refine JO.pur rfl rfl rfl (Pur.assign rfl) ?_
      refine JO.pur rfl rfl rfl (Pur.assign rfl) ?_
      refine JO.nil ?_
      refine J.ret rfl rfl ?_
      refine ⟨_, _, ⟨a6, c6, by rw [hf, hw, ← htl, hwl]; rfl, rfl⟩, rfl, fun h s => ?_⟩
      rw [hw]
      rw [htl] at s
      exact SubC.out h s

theorem better_ok {L : List Asn} {va wa : Option Addr} {n m cv cw : Nat} {v w : List Int} [SlIn intE L va v] [SlIn intE L wa w] (hn : n = v.length) (hm : m = w.length) (hvw : v.length = w.length) (hb : v.length ≤ 20) :
    CallS Tryd.prog 12 [.slice va n cv, .slice wa m cw].toArray L (fun u M => u = .bool (betB v w) ∧ M = L) := by
  subst hn
  subst hm
  refine CallS.ent ?_
  refine CallS.enter Tryd.func12 rfl rfl rfl rfl rfl ?_
  refine J.seq rfl ?_
  refine J.region rfl ?_
  refine JO.pur rfl rfl rfl (Pur.assign rfl) ?_
  refine JO.nil ?_
  refine J.seq rfl ?_
  refine J.region rfl ?_
  refine JO.pur rfl rfl rfl (Pur.assign rfl) ?_
  refine JO.nil ?_
  refine J.seq rfl ?_
  refine J.seq rfl ?_
  refine J.region rfl ?_
  refine JO.pur rfl rfl rfl (Pur.move rfl) ?_
  refine JO.pur rfl rfl rfl (Pur.len rfl) ?_
  refine JO.pur rfl rfl rfl (Pur.move rfl) ?_
  refine JO.nil ?_
  refine J.block rfl ?_
  refine J.loopF (ι := Nat) (fun q => q ≤ v.length ∧ ((v.zip w).take q).all (fun p => decide (p.1 ≤ p.2)) = true) (fun q => [(5, .bool (((v.zip w).take q).any fun p => decide (p.1 < p.2))), (9, .int .i64 (q : Int))]) [(0, _), (1, _), (8, _)] (fun q => L) (fun q => v.length - q) 0 rfl (.cons rfl rfl (.cons rfl rfl (.cons rfl rfl .nil))) (.cons rfl rfl (.cons rfl rfl .nil)) (by first | exact fun _ h => h | exact SubC.out | (dsimp only; exact SubC.out)) ⟨Nat.zero_le _, rfl⟩ ?_
  rintro q ⟨hq, hal⟩ ihq
  try dsimp only
  refine J.seq rfl ?_
  refine J.region rfl ?_
  refine JO.pur rfl rfl rfl (Pur.lss rfl rfl) ?_
  refine JO.nil ?_
  refine J.seq rfl ?_
  refine J.splitB 10 rfl (fun h10 => ?_) (fun h10 => ?_)
  · try simp only [decide_eq_true_eq, decide_eq_false_iff_not, Bool.not_eq_true', Bool.not_eq_false', Bool.and_eq_true, Bool.or_eq_true, Bool.and_eq_false_iff, Bool.or_eq_false_iff, Option.isNone_some, Option.isSome_some, Option.isNone_none, Option.isSome_none, Int.not_lt, Int.not_le, beq_iff_eq, beq_eq_false_iff_ne, bne_iff_ne, ne_eq, Bool.not_not, Decidable.not_not] at h10
    have hql : q < v.length := by omega
    obtain ⟨x, hX⟩ : ∃ x, v[q]? = some x := ⟨_, List.getElem?_eq_getElem hql⟩
    obtain ⟨y, hY⟩ : ∃ y, w[q]? = some y := ⟨_, List.getElem?_eq_getElem (by omega)⟩
    refine J.condT rfl rfl ?_
    refine J.skip rfl ?_
    refine J.seq rfl ?_
    refine J.block rfl ?_
    refine J.seq rfl ?_
    refine J.region rfl ?_
    refine JO.pur rfl rfl rfl (Pur.move rfl) ?_
    refine JO.pur rfl rfl rfl (Pur.assign rfl) ?_
    refine JO.nil ?_
    refine J.seq rfl ?_
    refine J.seq rfl ?_
    refine J.mask0 (n := 9) [] rfl Tryd.mixed rfl (by kernel_rfl) ?_
    refine JM.take 0 (fun _ h => h) rfl (by kernel_rfl) rfl rfl rfl (m' := 1) rfl (Pur.move rfl) ?_
    refine JM.take 1 (fun _ h => h) rfl (by kernel_rfl) rfl rfl rfl (m' := 3) rfl (Pur.move rfl) ?_
    refine JM.take 2 (fun _ h => h) rfl (by kernel_rfl) rfl rfl rfl (m' := 7) rfl (Pur.idx rfl rfl rfl (by first | rfl | (simp; done) | omega) rfl (by omega)) ?_
    refine JM.take 3 (fun _ h => h) rfl (by kernel_rfl) rfl rfl rfl (m' := 15) rfl (Pur.load rfl (CellIn.el0 rfl hX rfl)) ?_
    refine JM.setv (u' := .int .i64 x) 15 rfl rfl ?_
    refine JM.take 4 (fun _ h => h) rfl (by kernel_rfl) rfl rfl rfl (m' := 31) rfl (Pur.move rfl) ?_
    refine JM.take 5 (fun _ h => h) rfl (by kernel_rfl) rfl rfl rfl (m' := 63) rfl (Pur.move rfl) ?_
    refine JM.take 6 (fun _ h => h) rfl (by kernel_rfl) rfl rfl rfl (m' := 127) rfl (Pur.idx rfl rfl rfl (by first | rfl | (simp; done) | omega) rfl (by omega)) ?_
    refine JM.take 7 (fun _ h => h) rfl (by kernel_rfl) rfl rfl rfl (m' := 255) rfl (Pur.load rfl (CellIn.el0 rfl hY rfl)) ?_
    refine JM.setv (u' := .int .i64 y) 19 rfl rfl ?_
    refine JM.take 8 (fun _ h => h) rfl (by kernel_rfl) rfl rfl rfl (m' := 511) rfl (Pur.gtr rfl rfl) ?_
    refine JM.done rfl ?_
    refine J.splitB 20 rfl (fun h20 => ?_) (fun h20 => ?_)
    · try simp only [decide_eq_true_eq, decide_eq_false_iff_not, Bool.not_eq_true', Bool.not_eq_false', Bool.and_eq_true, Bool.or_eq_true, Bool.and_eq_false_iff, Bool.or_eq_false_iff, Option.isNone_some, Option.isSome_some, Option.isNone_none, Option.isSome_none, Int.not_lt, Int.not_le, beq_iff_eq, beq_eq_false_iff_ne, bne_iff_ne, ne_eq, Bool.not_not, Decidable.not_not] at h20
      refine J.condT rfl rfl ?_
      refine J.seq rfl ?_
      refine J.region rfl ?_
      refine JO.pur rfl rfl rfl (Pur.assign rfl) ?_
      refine JO.nil ?_
      refine J.ret rfl rfl ?_
      first
      | exact ⟨_, _, ⟨rfl, rfl⟩, congrArg Value.bool (bet_no hX hY (by omega)).symm, SubC.out⟩
      | exact ⟨_, _, ⟨rfl, rfl⟩, congrArg Value.bool (bet_end hvw (by omega) hal).symm, SubC.out⟩
    · try simp only [decide_eq_true_eq, decide_eq_false_iff_not, Bool.not_eq_true', Bool.not_eq_false', Bool.and_eq_true, Bool.or_eq_true, Bool.and_eq_false_iff, Bool.or_eq_false_iff, Option.isNone_some, Option.isSome_some, Option.isNone_none, Option.isSome_none, Int.not_lt, Int.not_le, beq_iff_eq, beq_eq_false_iff_ne, bne_iff_ne, ne_eq, Bool.not_not, Decidable.not_not] at h20
      refine J.condF rfl rfl ?_
      refine J.skip rfl ?_
      refine J.mask0 (n := 13) [] rfl Tryd.mixed rfl (by kernel_rfl) ?_
      refine JM.take 0 (fun _ h => h) rfl (by kernel_rfl) rfl rfl rfl (m' := 1) rfl (Pur.move rfl) ?_
      refine JM.take 1 (fun _ h => h) rfl (by kernel_rfl) rfl rfl rfl (m' := 3) rfl (Pur.move rfl) ?_
      refine JM.splitB 22 rfl (fun h22 => ?_) (fun h22 => ?_)
      · try simp only [decide_eq_true_eq, decide_eq_false_iff_not, Bool.not_eq_true', Bool.not_eq_false', Bool.and_eq_true, Bool.or_eq_true, Bool.and_eq_false_iff, Bool.or_eq_false_iff, Option.isNone_some, Option.isSome_some, Option.isNone_none, Option.isSome_none, Int.not_lt, Int.not_le, beq_iff_eq, beq_eq_false_iff_ne, bne_iff_ne, ne_eq, Bool.not_not, Decidable.not_not] at h22
        refine JM.takeNo 2 (fun _ h => h) rfl (by kernel_rfl) rfl rfl rfl (m' := 7) rfl ?_
        refine JM.takeNo 3 (fun _ h => h) rfl (by kernel_rfl) rfl rfl rfl (m' := 15) rfl ?_
        refine JM.takeNo 4 (fun _ h => h) rfl (by kernel_rfl) rfl rfl rfl (m' := 31) rfl ?_
        refine JM.takeNo 5 (fun _ h => h) rfl (by kernel_rfl) rfl rfl rfl (m' := 63) rfl ?_
        refine JM.takeNo 6 (fun _ h => h) rfl (by kernel_rfl) rfl rfl rfl (m' := 127) rfl ?_
        refine JM.takeNo 7 (fun _ h => h) rfl (by kernel_rfl) rfl rfl rfl (m' := 255) rfl ?_
        refine JM.takeNo 8 (fun _ h => h) rfl (by kernel_rfl) rfl rfl rfl (m' := 511) rfl ?_
        refine JM.takeNo 9 (fun _ h => h) rfl (by kernel_rfl) rfl rfl rfl (m' := 1023) rfl ?_
        refine JM.takeNo 10 (fun _ h => h) rfl (by kernel_rfl) rfl rfl rfl (m' := 2047) rfl ?_
        refine JM.take 11 (fun _ h => h) rfl (by kernel_rfl) rfl rfl rfl (m' := 4095) rfl (Pur.pickT rfl rfl) ?_
        refine JM.take 12 (fun _ h => h) rfl (by kernel_rfl) rfl rfl rfl (m' := 8191) rfl (Pur.assign rfl) ?_
        refine JM.done rfl ?_
        refine J.inBlock ?_
        refine J.region rfl ?_
        refine JO.pur rfl rfl rfl (Pur.add rfl rfl (wr64 (by omega))) ?_
        refine JO.pur rfl rfl rfl (Pur.move rfl) ?_
        refine JO.nil ?_
        exact J.weaken (.cons rfl (congrArg Value.bool (by rw [any_step hX hY]; first | rw [h22, Bool.true_or] | rw [h22, Bool.false_or])) (.cons rfl (congrArg (Value.int .i64) (by first | rfl | (dsimp only; omega))) (.cons rfl rfl (.cons rfl rfl (.cons rfl rfl .nil))))) (by first | exact fun _ h => h | exact SubC.out | (dsimp only; exact SubC.out)) (ihq (q + 1) ⟨by omega, all_step (zip_get hX hY) hal (decide_eq_true (by dsimp only; omega))⟩ (by omega))
      · try simp only [decide_eq_true_eq, decide_eq_false_iff_not, Bool.not_eq_true', Bool.not_eq_false', Bool.and_eq_true, Bool.or_eq_true, Bool.and_eq_false_iff, Bool.or_eq_false_iff, Option.isNone_some, Option.isSome_some, Option.isNone_none, Option.isSome_none, Int.not_lt, Int.not_le, beq_iff_eq, beq_eq_false_iff_ne, bne_iff_ne, ne_eq, Bool.not_not, Decidable.not_not] at h22
        refine JM.take 2 (fun _ h => h) rfl (by kernel_rfl) rfl rfl rfl (m' := 7) rfl (Pur.move rfl) ?_
        refine JM.take 3 (fun _ h => h) rfl (by kernel_rfl) rfl rfl rfl (m' := 15) rfl (Pur.move rfl) ?_
        refine JM.take 4 (fun _ h => h) rfl (by kernel_rfl) rfl rfl rfl (m' := 31) rfl (Pur.idx rfl rfl rfl (by first | rfl | (simp; done) | omega) rfl (by omega)) ?_
        refine JM.take 5 (fun _ h => h) rfl (by kernel_rfl) rfl rfl rfl (m' := 63) rfl (Pur.load rfl (CellIn.el0 rfl hX rfl)) ?_
        refine JM.setv (u' := .int .i64 x) 26 rfl rfl ?_
        refine JM.take 6 (fun _ h => h) rfl (by kernel_rfl) rfl rfl rfl (m' := 127) rfl (Pur.move rfl) ?_
        refine JM.take 7 (fun _ h => h) rfl (by kernel_rfl) rfl rfl rfl (m' := 255) rfl (Pur.move rfl) ?_
        refine JM.take 8 (fun _ h => h) rfl (by kernel_rfl) rfl rfl rfl (m' := 511) rfl (Pur.idx rfl rfl rfl (by first | rfl | (simp; done) | omega) rfl (by omega)) ?_
        refine JM.take 9 (fun _ h => h) rfl (by kernel_rfl) rfl rfl rfl (m' := 1023) rfl (Pur.load rfl (CellIn.el0 rfl hY rfl)) ?_
        refine JM.setv (u' := .int .i64 y) 30 rfl rfl ?_
        refine JM.take 10 (fun _ h => h) rfl (by kernel_rfl) rfl rfl rfl (m' := 2047) rfl (Pur.lss rfl rfl) ?_
        refine JM.take 11 (fun _ h => h) rfl (by kernel_rfl) rfl rfl rfl (m' := 4095) rfl (Pur.pickF rfl rfl) ?_
        refine JM.take 12 (fun _ h => h) rfl (by kernel_rfl) rfl rfl rfl (m' := 8191) rfl (Pur.assign rfl) ?_
        refine JM.done rfl ?_
        refine J.inBlock ?_
        refine J.region rfl ?_
        refine JO.pur rfl rfl rfl (Pur.add rfl rfl (wr64 (by omega))) ?_
        refine JO.pur rfl rfl rfl (Pur.move rfl) ?_
        refine JO.nil ?_
        exact J.weaken (.cons rfl (congrArg Value.bool (by rw [any_step hX hY]; first | rw [h22, Bool.true_or] | rw [h22, Bool.false_or])) (.cons rfl (congrArg (Value.int .i64) (by first | rfl | (dsimp only; omega))) (.cons rfl rfl (.cons rfl rfl (.cons rfl rfl .nil))))) (by first | exact fun _ h => h | exact SubC.out | (dsimp only; exact SubC.out)) (ihq (q + 1) ⟨by omega, all_step (zip_get hX hY) hal (decide_eq_true (by dsimp only; omega))⟩ (by omega))
  · try simp only [decide_eq_true_eq, decide_eq_false_iff_not, Bool.not_eq_true', Bool.not_eq_false', Bool.and_eq_true, Bool.or_eq_true, Bool.and_eq_false_iff, Bool.or_eq_false_iff, Option.isNone_some, Option.isSome_some, Option.isNone_none, Option.isSome_none, Int.not_lt, Int.not_le, beq_iff_eq, beq_eq_false_iff_ne, bne_iff_ne, ne_eq, Bool.not_not, Decidable.not_not] at h10
    refine J.condF rfl rfl ?_
    refine J.exit rfl rfl ?_
    refine J.seq rfl ?_
    refine J.region rfl ?_
    refine JO.pur rfl rfl rfl (Pur.move rfl) ?_
    refine JO.pur rfl rfl rfl (Pur.assign rfl) ?_
    refine JO.nil ?_
    refine J.ret rfl rfl ?_
    first
    | exact ⟨_, _, ⟨rfl, rfl⟩, congrArg Value.bool (bet_no hX hY (by omega)).symm, SubC.out⟩
    | exact ⟨_, _, ⟨rfl, rfl⟩, congrArg Value.bool (bet_end hvw (by omega) hal).symm, SubC.out⟩

end Go.Proofs.YtbmepcipnnlcnaaDoor

/- The text JPlain4. -/
/-! The best one. -/
set_option linter.unusedVariables false
set_option linter.unusedSimpArgs false
namespace Sg
open Go.KK
def okC (ps : List (Sn × List Fm)) (ac : List Fm) : Bool := (ps.all fun p => valB p.1 p.2) && actB ac
def fnd (ps : List (Sn × List Fm)) (nm : ByteArray) (ac : List Fm) : List Nat := if okC ps ac then cands nm ac 0 ps else []
theorem find_at {α : Type} {p : α → Bool} : ∀ {l : List α} {k : Nat} {x : α}, l[k]? = some x → (∀ j y, j < k → l[j]? = some y → p y = false) → p x = true → l.find? p = some x
  | [], k, x, h, _, _ => by simp at h
  | z :: l, 0, x, h, _, hp => by simp at h; subst h; simp [List.find?, hp]
  | z :: l, k + 1, x, h, hn, hp => by
    have h0 := hn 0 z (by omega) rfl
    rw [List.find?_cons_of_neg (by simp [h0])]
    exact find_at (by simpa using h) (fun j y hj hy => hn (j + 1) y (by omega) (by simpa using hy)) hp
theorem find_no {α : Type} {p : α → Bool} {l : List α} (h : ∀ (j : Nat) y, j < l.length → l[j]? = some y → p y = false) : l.find? p = none := by
  rw [List.find?_eq_none]
  intro x hx
  obtain ⟨j, hj, e⟩ := List.getElem_of_mem hx
  have := h j x hj (by rw [List.getElem?_eq_getElem hj, e])
  simp [this]
theorem way_at {ps : List (Sn × List Fm)} {ac : List Fm} {i : Nat} {p : Sn × List Fm} (h : ps[i]? = some p) : wayAt ps ac i = wayL p.2 ac := by unfold wayAt; rw [h]
theorem way_atR {ps : List (Sn × List Fm)} {ac : List Fm} {i : Nat} {p : Sn × List Fm} (h : ps[i]? = some p) (hf : fitsB p.2 ac = true) : wayR p.2 ac = wayAt ps ac i := by rw [way_at h]; unfold wayR; rw [if_pos hf]
theorem fnd_mem {ps : List (Sn × List Fm)} {nm : ByteArray} {ac : List Fm} {i : Nat} (h : i ∈ fnd ps nm ac) : ∃ p, ps[i]? = some p ∧ fitsB p.2 ac = true ∧ p.1.nm = nm := by
  unfold fnd at h
  split at h
  · obtain ⟨p, _, h2, h3⟩ := (cands_mem nm ac ps 0 i).1 h
    unfold candB at h3
    simp only [Bool.and_eq_true, decide_eq_true_eq] at h3
    exact ⟨p, h2, h3.1, h3.2⟩
  · cases h
theorem fnd_len {ps : List (Sn × List Fm)} {nm : ByteArray} {ac : List Fm} : (fnd ps nm ac).length ≤ ps.length := by
  unfold fnd; split
  · exact cands_len _ _ _ _
  · simp
theorem res_arg {ps : List (Sn × List Fm)} {nm : ByteArray} {ac : List Fm} (h : okC ps ac = false) : resolveS ps nm ac = (0, 2) := by
  unfold okC at h; unfold resolveS; rw [if_neg (by rw [h]; decide)]
theorem res_none {ps : List (Sn × List Fm)} {nm : ByteArray} {ac : List Fm} (h : okC ps ac = true) (hf : fnd ps nm ac = []) : resolveS ps nm ac = (0, 90) := by
  unfold fnd at hf; rw [if_pos h] at hf
  unfold okC at h; unfold resolveS; rw [if_pos h, if_pos hf]
theorem res_some {ps : List (Sn × List Fm)} {nm : ByteArray} {ac : List Fm} (h : okC ps ac = true) (hf : fnd ps nm ac ≠ []) :
    resolveS ps nm ac = match (fnd ps nm ac).find? (bestB ps ac (fnd ps nm ac)) with | some i => ((i : Int), 0) | none => (0, 91) := by
  have e : fnd ps nm ac = cands nm ac 0 ps := by unfold fnd; rw [if_pos h]
  rw [e] at hf ⊢
  unfold okC at h; unfold resolveS; rw [if_pos h, if_neg hf]
  generalize List.find? (bestB ps ac (cands nm ac 0 ps)) (cands nm ac 0 ps) = o
  cases o <;> rfl
theorem res_best {ps : List (Sn × List Fm)} {nm : ByteArray} {ac : List Fm} {k i : Nat} (h : okC ps ac = true) (hi : (fnd ps nm ac)[k]? = some i)
    (hn : ∀ j y, j < k → (fnd ps nm ac)[j]? = some y → bestB ps ac (fnd ps nm ac) y = false) (hb : bestB ps ac (fnd ps nm ac) i = true) : resolveS ps nm ac = ((i : Int), 0) := by
  rw [res_some h (fun e => by rw [e] at hi; simp at hi), find_at hi hn hb]
theorem res_many {ps : List (Sn × List Fm)} {nm : ByteArray} {ac : List Fm} (h : okC ps ac = true) (hf : fnd ps nm ac ≠ [])
    (hn : ∀ j y, j < (fnd ps nm ac).length → (fnd ps nm ac)[j]? = some y → bestB ps ac (fnd ps nm ac) y = false) : resolveS ps nm ac = (0, 91) := by
  rw [res_some h hf, find_no hn]
def fd (l : List Nat) : List Int := l.map fun (i : Nat) => (i : Int)
theorem fd_get {l : List Nat} {k i : Nat} (h : l[k]? = some i) : (fd l)[k]? = some (i : Int) := by unfold fd; rw [List.getElem?_map, h]; rfl
theorem fd_len {l : List Nat} : (fd l).length = l.length := by unfold fd; simp
theorem fd_any {l : List Nat} {p : Nat → Bool} : ((fd l).any fun x => !p x.toNat) = !(l.all p) := by
  unfold fd
  rw [List.any_map]
  induction l with
  | nil => rfl
  | cons x l ih => rw [List.any_cons, List.all_cons, Bool.not_and, ih]; rfl
theorem best_all {ps : List (Sn × List Fm)} {ac : List Fm} {l : List Nat} {i : Nat} : ((fd l).any fun x => !beats ps ac i x.toNat) = !bestB ps ac l i := fd_any
end Sg
