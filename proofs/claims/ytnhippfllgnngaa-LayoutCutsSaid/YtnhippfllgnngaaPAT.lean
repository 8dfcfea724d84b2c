/-
  A part of the proof of the claim that this folder bears.
-/
import Derived.Test.YtnhippfllgnngaaPAS
/- The text SE7. -/
set_option linter.unusedVariables false
set_option linter.unusedSimpArgs false
set_option maxRecDepth 10000
namespace Go.Proofs.Ytnhippfllgnngaa
open Go Go.KK Dm

def cutV (lay : ByteArray) (rs : List Rg) (xs : List Int) (ss : List Rg) : List Int × Int := if wthV lay rs ss ≠ 0 then ([], wthV lay rs ss) else if xs.length ≠ cntD rs then ([], 2) else (pickV (isC lay) rs xs (ordL (isC lay) ss), 0)
def layL (c : Bool) (rs ss : List Rg) (xs ys : List Int) (k : Nat) : List Int := (List.range k).foldl (fun out i => out.set (offZ c rs ((ordL c ss).getD i [])) (ys.getD i 0)) xs
def layV (lay : ByteArray) (rs : List Rg) (xs : List Int) (ss : List Rg) (ys : List Int) : List Int × Int := if wthV lay rs ss ≠ 0 then ([], wthV lay rs ss) else if xs.length ≠ cntD rs ∨ ys.length ≠ cntD ss then ([], 2) else (layL (isC lay) rs ss xs ys (ordL (isC lay) ss).length, 0)
theorem layL_zero (c : Bool) (rs ss : List Rg) (xs ys : List Int) : layL c rs ss xs ys 0 = xs := rfl
theorem layL_succ {c : Bool} {rs ss : List Rg} {xs ys : List Int} {k : Nat} {x : List Int} (hX : (ordL c ss)[k]? = some x) : layL c rs ss xs ys (k + 1) = (layL c rs ss xs ys k).set (offZ c rs x) (ys.getD k 0) := by
  unfold layL
  rw [List.range_succ, List.foldl_append]
  simp only [List.foldl_cons, List.foldl_nil, List.getD_eq_getElem?_getD, hX, Option.getD_some]
theorem layL_len (c : Bool) (rs ss : List Rg) (xs ys : List Int) : ∀ k, (layL c rs ss xs ys k).length = xs.length
  | 0 => rfl
  | k + 1 => by
    unfold layL
    rw [List.range_succ, List.foldl_append]
    simp only [List.foldl_cons, List.foldl_nil, List.length_set]
    exact layL_len c rs ss xs ys k
theorem lCut {L : List Asn} {lay : ByteArray} {a b d : Option Addr} {n cap m cq vn vc : Nat} {rs ss : List Rg} {xs : List Int} [SlIn rgE L a rs] [SlIn rgE L b ss] [SlIn intE L d xs] (hn : n = rs.length) (hm : m = ss.length) (hv : vn = xs.length) :
    CallS Try.prog 76 [.string lay, .agg #[.slice a n cap], .slice d vn vc, .agg #[.slice b m cq]].toArray L (fun v M => ∃ a' c', v = .tuple #[.slice a' (cutV lay rs xs ss).1.length c', .int .i64 (cutV lay rs xs ss).2] ∧ M = sl intE a' c' (cutV lay rs xs ss).1 :: L) := by
  subst hn
  subst hm
  subst hv
  refine CallS.ent ?_
  refine CallS.enter Try.func76 rfl rfl rfl rfl rfl ?_
  refine J.seq rfl ?_
  refine J.region rfl ?_
  refine JO.eff rfl rfl rfl (Eff.box (cs := [_]) rfl rfl) ?_
  rintro _ _ ⟨b5, rfl, rfl⟩
  refine JO.eff rfl rfl rfl (Eff.box (cs := [_]) rfl rfl) ?_
  rintro _ _ ⟨b7, rfl, rfl⟩
  refine JO.pur rfl rfl rfl (Pur.assign rfl) ?_
  refine JO.pur rfl rfl rfl (Pur.assign rfl) ?_
  refine JO.nil ?_
  refine J.seq rfl ?_
  refine J.region rfl ?_
  refine JO.pur rfl rfl rfl (Pur.move rfl) ?_
  refine JO.pur rfl rfl rfl (Pur.loadA rfl rfl rfl CellsIn.blk) ?_
  refine JO.pur rfl rfl rfl (Pur.loadA rfl rfl rfl CellsIn.blk) ?_
  refine JO.effR rfl rfl rfl (Eff.call rfl (lwithin (rs := rs) (ss := ss) rfl rfl)) ?_
  refine JO.pur rfl rfl rfl (Pur.assign rfl) ?_
  refine JO.nil ?_
  refine J.seq rfl ?_
  refine J.block rfl ?_
  refine J.seq rfl ?_
  refine J.region rfl ?_
  refine JO.pur rfl rfl rfl (Pur.move rfl) ?_
  refine JO.pur rfl rfl rfl (Pur.neqI rfl rfl) ?_
  refine JO.pur rfl rfl rfl (Pur.assign rfl) ?_
  refine JO.nil ?_
  refine J.splitB 18 rfl (fun h18 => ?_) (fun h18 => ?_)
  · try simp only [decide_eq_true_eq, decide_eq_false_iff_not, Bool.not_eq_true', Bool.not_eq_false', Bool.and_eq_true, Bool.or_eq_true, Bool.and_eq_false_iff, Bool.or_eq_false_iff, Option.isNone_some, Option.isSome_some, Option.isNone_none, Option.isSome_none, Int.not_lt, Int.not_le, beq_iff_eq, beq_eq_false_iff_ne, bne_iff_ne, ne_eq, Bool.not_not, Decidable.not_not] at h18
    have hbad : wthV lay rs ss ≠ 0 := by simpa using h18
    refine J.condT rfl rfl ?_
    refine J.seq rfl ?_
    refine J.region rfl ?_
    refine JO.pur rfl rfl rfl (Pur.move rfl) ?_
    refine JO.pur rfl rfl rfl (Pur.assign rfl) ?_
    refine JO.pur rfl rfl rfl (Pur.assign rfl) ?_
    refine JO.nil ?_
    refine J.ret rfl rfl ?_
    have hv : cutV lay rs xs ss = ([], wthV lay rs ss) := by unfold cutV; rw [if_pos hbad]
    refine ⟨_, _, ⟨none, 0, rfl, rfl⟩, by rw [hv]; rfl, fun h s => ?_⟩
    rw [hv]; exact sl_nil_new (SubC.out h s)
  · try simp only [decide_eq_true_eq, decide_eq_false_iff_not, Bool.not_eq_true', Bool.not_eq_false', Bool.and_eq_true, Bool.or_eq_true, Bool.and_eq_false_iff, Bool.or_eq_false_iff, Option.isNone_some, Option.isSome_some, Option.isNone_none, Option.isSome_none, Int.not_lt, Int.not_le, beq_iff_eq, beq_eq_false_iff_ne, bne_iff_ne, ne_eq, Bool.not_not, Decidable.not_not] at h18
    have hgw : wthV lay rs ss = 0 := by simpa using h18
    obtain ⟨g1, g2, g3, hle, hw⟩ := wthV_ok hgw
    have hct : ctV rs = (cntD rs : Int) := by unfold ctV; rw [if_pos g2]
    have hct2 : ctV ss = (cntD ss : Int) := by unfold ctV; rw [if_pos g3]
    have hc4 := g2.2.2.2
    have hc5 := g3.2.2.2
    have hl3 := g2.2.1
    have hl4 := g3.2.1
    have hol := ord_len2 (isC lay) ss
    have hol1 := ord_len2 (isC lay) rs
    have hofl : (offsL (isC lay) rs ss).length = (ordL (isC lay) ss).length := by simp [offsL]
    refine J.condF rfl rfl ?_
    refine J.seq rfl ?_
    refine J.region rfl ?_
    refine JO.pur rfl rfl rfl (Pur.move rfl) ?_
    refine JO.pur rfl rfl rfl (Pur.len rfl) ?_
    refine JO.pur rfl rfl rfl (Pur.loadA rfl rfl rfl CellsIn.blk) ?_
    refine JO.effR rfl rfl rfl (Eff.call rfl (lcount (rs := rs) rfl)) ?_
    refine JO.pur rfl rfl rfl (Pur.neqI rfl rfl) ?_
    refine JO.pur rfl rfl rfl (Pur.assign rfl) ?_
    refine JO.nil ?_
    refine J.splitB 22 rfl (fun h22 => ?_) (fun h22 => ?_)
    · try simp only [decide_eq_true_eq, decide_eq_false_iff_not, Bool.not_eq_true', Bool.not_eq_false', Bool.and_eq_true, Bool.or_eq_true, Bool.and_eq_false_iff, Bool.or_eq_false_iff, Option.isNone_some, Option.isSome_some, Option.isNone_none, Option.isSome_none, Int.not_lt, Int.not_le, beq_iff_eq, beq_eq_false_iff_ne, bne_iff_ne, ne_eq, Bool.not_not, Decidable.not_not] at h22
      have hlen : xs.length ≠ cntD rs := by rw [hct] at h22; omega
      refine J.condT rfl rfl ?_
      refine J.seq rfl ?_
      refine J.region rfl ?_
      refine JO.pur rfl rfl rfl (Pur.assign rfl) ?_
      refine JO.pur rfl rfl rfl (Pur.assign rfl) ?_
      refine JO.nil ?_
      refine J.ret rfl rfl ?_
      have hv : cutV lay rs xs ss = ([], 2) := by unfold cutV; rw [if_neg (not_not_intro hgw), if_pos hlen]
      refine ⟨_, _, ⟨none, 0, rfl, rfl⟩, by rw [hv]; rfl, fun h s => ?_⟩
      rw [hv]; exact sl_nil_new (SubC.out h s)
    · try simp only [decide_eq_true_eq, decide_eq_false_iff_not, Bool.not_eq_true', Bool.not_eq_false', Bool.and_eq_true, Bool.or_eq_true, Bool.and_eq_false_iff, Bool.or_eq_false_iff, Option.isNone_some, Option.isSome_some, Option.isNone_none, Option.isSome_none, Int.not_lt, Int.not_le, beq_iff_eq, beq_eq_false_iff_ne, bne_iff_ne, ne_eq, Bool.not_not, Decidable.not_not] at h22
      have hlen : xs.length = cntD rs := by rw [hct] at h22; omega
      refine J.condF rfl rfl ?_
      refine J.skip rfl ?_
      refine J.inBlock ?_
      refine J.seq rfl ?_
      refine J.region rfl ?_
      refine JO.pur rfl rfl rfl (Pur.assign rfl) ?_
      refine JO.nil ?_
      refine J.seq rfl ?_
      refine J.seq rfl ?_
      refine J.region rfl ?_
      refine JO.pur rfl rfl rfl (Pur.move rfl) ?_
      refine JO.pur rfl rfl rfl (Pur.loadA rfl rfl rfl CellsIn.blk) ?_
      refine JO.pur rfl rfl rfl (Pur.loadA rfl rfl rfl CellsIn.blk) ?_
      refine JO.eff rfl rfl rfl (Eff.call rfl (loffsets (rs := rs) (ss := ss) rfl rfl g2 g3)) ?_
      rintro _ _ ⟨a31, c31, rfl, rfl⟩
      refine JO.pur rfl rfl rfl (Pur.len rfl) ?_
      refine JO.pur rfl rfl rfl (Pur.move rfl) ?_
      refine JO.nil ?_
      refine J.block rfl ?_
      refine J.loopF (ι := Nat × Option Addr × Nat) (fun q => q.1 ≤ (ordL (isC lay) ss).length) (fun q => [(11, .slice q.2.1 q.1 q.2.2), (33, .int .i64 (q.1 : Int))]) [(2, _), (31, _), (32, _)] (fun q => sl intE q.2.1 q.2.2 ((pickV (isC lay) rs xs (ordL (isC lay) ss)).take q.1) :: sl intE a31 c31 (offsL (isC lay) rs ss) :: L) (fun q => (ordL (isC lay) ss).length - q.1) (0, none, 0) rfl (.cons rfl rfl (.cons rfl rfl (.cons rfl rfl .nil))) (.cons rfl rfl (.cons rfl rfl .nil)) (fun h s => by have s2 := sl_nil_new (E := intE) s; dsimp only; rw [List.take_zero]; exact SubC.out (L := sl intE none 0 [] :: _) h s2) (Nat.zero_le _) ?_
      rintro ⟨k, a0, c0⟩ hk ih0
      try dsimp only
      dsimp only at hk
      have hfl : (pickV (isC lay) rs xs (ordL (isC lay) ss)).length = (ordL (isC lay) ss).length := by simp [pickV]
      have htl : ((pickV (isC lay) rs xs (ordL (isC lay) ss)).take k).length = k := by rw [List.length_take]; omega
      refine J.seq rfl ?_
      refine J.region rfl ?_
      refine JO.pur rfl rfl rfl (Pur.lss rfl rfl) ?_
      refine JO.nil ?_
      refine J.seq rfl ?_
      refine J.splitB 34 rfl (fun h34 => ?_) (fun h34 => ?_)
      · try simp only [decide_eq_true_eq, decide_eq_false_iff_not, Bool.not_eq_true', Bool.not_eq_false', Bool.and_eq_true, Bool.or_eq_true, Bool.and_eq_false_iff, Bool.or_eq_false_iff, Option.isNone_some, Option.isSome_some, Option.isNone_none, Option.isSome_none, Int.not_lt, Int.not_le, beq_iff_eq, beq_eq_false_iff_ne, bne_iff_ne, ne_eq, Bool.not_not, Decidable.not_not] at h34
        obtain ⟨x, hX⟩ : ∃ x, (ordL (isC lay) ss)[k]? = some x := ⟨_, List.getElem?_eq_getElem (by omega)⟩
        have hxm := List.mem_of_getElem? hX
        obtain ⟨hz1, hz2⟩ := off_z (c := isC lay) g2.2.2.1 (hw x ((mem_ord g3.2.2.1).1 hxm))
        have hof : (offsL (isC lay) rs ss)[k]? = some ((offZ (isC lay) rs x : Nat) : Int) := by unfold offsL; rw [List.getElem?_map, hX]; rfl
        have hap1 := pick_get (c := isC lay) (rs := rs) (xs := xs) hX
        refine J.condT rfl rfl ?_
        refine J.skip rfl ?_
        refine J.seq rfl ?_
        refine J.block rfl ?_
        refine J.seq rfl ?_
        refine J.region rfl ?_
        refine JO.pur rfl rfl rfl (Pur.idx rfl rfl rfl (by first | rfl | (simp; done) | omega) rfl (by omega)) ?_
        refine JO.pur rfl rfl rfl (Pur.load rfl (CellIn.el0 rfl hof rfl)) ?_
        refine JO.pur rfl rfl rfl (Pur.assign rfl) ?_
        refine JO.nil ?_
        refine J.region rfl ?_
        refine JO.pur rfl rfl rfl (Pur.move rfl) ?_
        refine JO.pur rfl rfl rfl (Pur.move rfl) ?_
        refine JO.pur rfl rfl rfl (Pur.move rfl) ?_
        refine JO.pur rfl rfl rfl (Pur.idx rfl rfl rfl (by first | rfl | (simp; done) | omega) rfl (by omega)) ?_
        refine JO.pur rfl rfl rfl (Pur.load rfl (CellIn.el0 rfl (getD_at 0 (by omega)) rfl)) ?_
        refine JO.eff rfl rfl rfl (Eff.buildSlice intE [xs.getD (offZ (isC lay) rs x) 0] rfl rfl rfl rfl rfl rfl rfl) ?_
        rintro _ _ ⟨b42, rfl, -, rfl⟩
        refine JO.eff rfl rfl rfl (Eff.append rfl rfl rfl rfl (by first | rfl | omega | (simp; done) | (simp; omega)) (by first | rfl | omega | (simp; done) | (simp; omega)) (by decide) (by simp; omega) (by simp; omega) (fun h => by cases h)) ?_
        rintro _ _ ⟨a43, c43, rfl, rfl⟩
        refine JO.pur rfl rfl rfl (Pur.assign rfl) ?_
        refine JO.nil ?_
        refine J.inBlock ?_
        refine J.region rfl ?_
        refine JO.pur rfl rfl rfl (Pur.add rfl rfl (wr64 (by omega))) ?_
        refine JO.pur rfl rfl rfl (Pur.move rfl) ?_
        refine JO.nil ?_
        exact J.weaken (.cons rfl (by show Value.slice a43 _ c43 = Value.slice a43 (k + 1) c43; rw [htl]; rfl) (.cons rfl (congrArg (Value.int .i64) (by first | rfl | (dsimp only; omega))) (.cons rfl rfl (.cons rfl rfl (.cons rfl rfl .nil))))) (fun h s => by rw [← hap1] at s; exact SubC.out h s) (ih0 (k + 1, a43, c43) (by dsimp only; omega) (by dsimp only; omega))
      · try simp only [decide_eq_true_eq, decide_eq_false_iff_not, Bool.not_eq_true', Bool.not_eq_false', Bool.and_eq_true, Bool.or_eq_true, Bool.and_eq_false_iff, Bool.or_eq_false_iff, Option.isNone_some, Option.isSome_some, Option.isNone_none, Option.isSome_none, Int.not_lt, Int.not_le, beq_iff_eq, beq_eq_false_iff_ne, bne_iff_ne, ne_eq, Bool.not_not, Decidable.not_not] at h34
        have hke : k = (pickV (isC lay) rs xs (ordL (isC lay) ss)).length := by omega
        refine J.condF rfl rfl ?_
        refine J.exit rfl rfl ?_
        refine J.seq rfl ?_
        refine J.region rfl ?_
        refine JO.pur rfl rfl rfl (Pur.move rfl) ?_
        refine JO.pur rfl rfl rfl (Pur.assign rfl) ?_
        refine JO.pur rfl rfl rfl (Pur.assign rfl) ?_
        refine JO.nil ?_
        refine J.ret rfl rfl ?_
        have hv : cutV lay rs xs ss = ((pickV (isC lay) rs xs (ordL (isC lay) ss)), 0) := by unfold cutV; rw [if_neg (not_not_intro hgw), if_neg (not_not_intro hlen)]
        refine ⟨_, _, ⟨a0, c0, rfl, rfl⟩, by rw [hv, hke]; rfl, fun h s => ?_⟩
        rw [hke, List.take_length] at s
        rw [hv]
        exact SubC.out h s

theorem rCut {L : List Asn} {lay : ByteArray} {a b d : Option Addr} {n cap m cq vn vc : Nat} {rs ss : List Rg} {xs : List Int} [SlIn rgE L a rs] [SlIn rgE L b ss] [SlIn intE L d xs] (hn : n = rs.length) (hm : m = ss.length) (hv : vn = xs.length) :
    CallS Try.prog 77 [.string lay, .agg #[.slice a n cap], .slice d vn vc, .agg #[.slice b m cq]].toArray L (fun v M => ∃ a' c', v = .tuple #[.slice a' (cutV lay rs xs ss).1.length c', .int .i64 (cutV lay rs xs ss).2] ∧ M = sl intE a' c' (cutV lay rs xs ss).1 :: L) := by
  subst hn
  subst hm
  subst hv
  refine CallS.ent ?_
  refine CallS.enter Try.func77 rfl rfl rfl rfl rfl ?_
  refine J.seq rfl ?_
  refine J.region rfl ?_
  refine JO.eff rfl rfl rfl (Eff.box (cs := [_]) rfl rfl) ?_
  rintro _ _ ⟨b5, rfl, rfl⟩
  refine JO.eff rfl rfl rfl (Eff.box (cs := [_]) rfl rfl) ?_
  rintro _ _ ⟨b7, rfl, rfl⟩
  refine JO.pur rfl rfl rfl (Pur.assign rfl) ?_
  refine JO.pur rfl rfl rfl (Pur.assign rfl) ?_
  refine JO.nil ?_
  refine J.seq rfl ?_
  refine J.seq rfl ?_
  refine J.region rfl ?_
  refine JO.pur rfl rfl rfl (Pur.move rfl) ?_
  refine JO.pur rfl rfl rfl (Pur.move rfl) ?_
  refine JO.pur rfl rfl rfl (Pur.loadA rfl rfl rfl CellsIn.blk) ?_
  refine JO.pur rfl rfl rfl (Pur.loadA rfl rfl rfl CellsIn.blk) ?_
  refine JO.effR rfl rfl rfl (Eff.call rfl (rAsked (lay := lay) (lay2 := lay) (rs := rs) (ss := ss) rfl rfl)) ?_
  refine JO.pur rfl rfl rfl (Pur.assign rfl) ?_
  refine JO.nil ?_
  refine J.seq rfl ?_
  refine J.region rfl ?_
  refine JO.pur rfl rfl rfl (Pur.move rfl) ?_
  refine JO.pur rfl rfl rfl (Pur.neqI rfl rfl) ?_
  refine JO.nil ?_
  refine J.splitB 23 rfl (fun h23 => ?_) (fun h23 => ?_)
  · try simp only [decide_eq_true_eq, decide_eq_false_iff_not, Bool.not_eq_true', Bool.not_eq_false', Bool.and_eq_true, Bool.or_eq_true, Bool.and_eq_false_iff, Bool.or_eq_false_iff, Option.isNone_some, Option.isSome_some, Option.isNone_none, Option.isSome_none, Int.not_lt, Int.not_le, beq_iff_eq, beq_eq_false_iff_ne, bne_iff_ne, ne_eq, Bool.not_not, Decidable.not_not] at h23
    have ha1 : rAskV lay lay rs ss ≠ 0 := h23
    refine J.condT rfl rfl ?_
    refine J.seq rfl ?_
    refine J.region rfl ?_
    refine JO.pur rfl rfl rfl (Pur.move rfl) ?_
    refine JO.pur rfl rfl rfl (Pur.assign rfl) ?_
    refine JO.pur rfl rfl rfl (Pur.assign rfl) ?_
    refine JO.nil ?_
    refine J.ret rfl rfl ?_
    have hv : cutV lay rs xs ss = ([], rAskV lay lay rs ss) := by unfold cutV; rw [wth_ask ha1, if_pos ha1]
    refine ⟨_, _, ⟨none, 0, rfl, rfl⟩, by rw [hv]; rfl, fun h s => ?_⟩
    rw [hv]; exact sl_nil_new (SubC.out h s)
  · try simp only [decide_eq_true_eq, decide_eq_false_iff_not, Bool.not_eq_true', Bool.not_eq_false', Bool.and_eq_true, Bool.or_eq_true, Bool.and_eq_false_iff, Bool.or_eq_false_iff, Option.isNone_some, Option.isSome_some, Option.isNone_none, Option.isSome_none, Int.not_lt, Int.not_le, beq_iff_eq, beq_eq_false_iff_ne, bne_iff_ne, ne_eq, Bool.not_not, Decidable.not_not] at h23
    have ha0 : rAskV lay lay rs ss = 0 := by simpa using h23
    obtain ⟨g1, g2, g3, hle⟩ := ask_wth ha0
    have hwi := wth_in ha0
    have hc4 := g2.2.2.2
    have hc5 := g3.2.2.2
    have hl3 := g2.2.1
    have hl4 := g3.2.1
    have hol := ord_len2 (isC lay) ss
    have hol1 := ord_len2 (isC lay) rs
    refine J.condF rfl rfl ?_
    refine J.skip rfl ?_
    refine J.seq rfl ?_
    refine J.mask0 (n := 8) [] rfl Try.mixed rfl (by kernel_rfl) ?_
    refine JM.take 0 (fun _ h => h) rfl (by kernel_rfl) rfl rfl rfl (m' := 1) rfl (Pur.move rfl) ?_
    refine JM.take 1 (fun _ h => h) rfl (by kernel_rfl) rfl rfl rfl (m' := 3) rfl (Pur.loadA rfl rfl rfl CellsIn.blk) ?_
    refine JM.take 3 (fun _ h => h) rfl (by kernel_rfl) rfl rfl rfl (m' := 11) rfl (Pur.move rfl) ?_
    refine JM.take 4 (fun _ h => h) rfl (by kernel_rfl) rfl rfl rfl (m' := 27) rfl (Pur.loadA rfl rfl rfl CellsIn.blk) ?_
    refine JM.one (i := 2) (by kernel_rfl) ?_
    refine JMi.eff rfl rfl rfl rfl (m' := 31) rfl (Eff.call rfl (rorder (rs := rs) rfl g2 g1)) ?_
    rintro _ _ ⟨a27, c27, hs, rfl, rfl⟩
    refine ⟨.inr (fun _ h => h.tail.tail), ?_⟩
    refine JM.one (i := 5) (by kernel_rfl) ?_
    refine JMi.eff rfl rfl rfl rfl (m' := 63) rfl (Eff.call rfl (rorder (rs := ss) rfl g3 g1)) ?_
    rintro _ _ ⟨a30, c30, hs2, rfl, rfl⟩
    refine ⟨.inr (fun _ h => h.tail.tail.tail.tail), ?_⟩
    refine JM.take 6 (fun _ h => h.tail.tail.tail.tail) rfl (by kernel_rfl) rfl rfl rfl (m' := 127) rfl (Pur.assign rfl) ?_
    refine JM.take 7 (fun _ h => h.tail.tail.tail.tail) rfl (by kernel_rfl) rfl rfl rfl (m' := 255) rfl (Pur.assign rfl) ?_
    refine JM.done rfl ?_
    refine J.seq rfl ?_
    refine J.seq rfl ?_
    refine J.region rfl ?_
    refine JO.pur rfl rfl rfl (Pur.loadA rfl rfl rfl CellsIn.blk) ?_
    refine JO.pur rfl rfl rfl (Pur.loadA rfl rfl rfl CellsIn.blk) ?_
    refine JO.effR rfl rfl rfl (Eff.call rfl (r_Within (rs := ss) (ss := rs) rfl rfl)) ?_
    refine JO.pur rfl rfl rfl (Pur.move rfl) ?_
    refine JO.pur rfl rfl rfl (Pur.extract rfl rfl) ?_
    refine JO.setv (u' := .bool (decide (wiD ss rs))) 35 rfl (congrArg Value.bool (witV_in g2 g3 hle)) ?_
    refine JO.pur rfl rfl rfl (Pur.extract rfl rfl) ?_
    refine JO.setv (u' := .int .i64 (witV ss rs).2) 36 rfl rfl ?_
    refine JO.pur rfl rfl rfl (Pur.assign rfl) ?_
    refine JO.pur rfl rfl rfl (Pur.assign rfl) ?_
    refine JO.nil ?_
    refine J.seq rfl ?_
    refine J.region rfl ?_
    refine JO.pur rfl rfl rfl (Pur.move rfl) ?_
    refine JO.pur rfl rfl rfl (Pur.not rfl) ?_
    refine JO.pur rfl rfl rfl (Pur.move rfl) ?_
    refine JO.splitB 39 rfl (fun h39 => ?_) (fun h39 => ?_)
    · try simp only [decide_eq_true_eq, decide_eq_false_iff_not, Bool.not_eq_true', Bool.not_eq_false', Bool.and_eq_true, Bool.or_eq_true, Bool.and_eq_false_iff, Bool.or_eq_false_iff, Option.isNone_some, Option.isSome_some, Option.isNone_none, Option.isSome_none, Int.not_lt, Int.not_le, beq_iff_eq, beq_eq_false_iff_ne, bne_iff_ne, ne_eq, Bool.not_not, Decidable.not_not] at h39
      have hnw : ¬ wiD ss rs := by simpa using h39
      refine JO.no rfl rfl rfl ?_
      refine JO.no rfl rfl rfl ?_
      refine JO.no rfl rfl rfl ?_
      refine JO.no rfl rfl rfl ?_
      refine JO.no rfl rfl rfl ?_
      refine JO.pur rfl rfl rfl (Pur.pickT rfl rfl) ?_
      refine JO.nil ?_
      refine J.condT rfl rfl ?_
      refine J.seq rfl ?_
      refine J.region rfl ?_
      refine JO.pur rfl rfl rfl (Pur.assign rfl) ?_
      refine JO.pur rfl rfl rfl (Pur.assign rfl) ?_
      refine JO.nil ?_
      refine J.ret rfl rfl ?_
      have hv : cutV lay rs xs ss = ([], 2) := by unfold cutV; rw [hwi, if_neg hnw, if_pos (by decide)]
      refine ⟨_, _, ⟨none, 0, rfl, rfl⟩, by rw [hv]; rfl, fun h s => ?_⟩
      rw [hv]; exact sl_nil_new (SubC.out h s)
    · try simp only [decide_eq_true_eq, decide_eq_false_iff_not, Bool.not_eq_true', Bool.not_eq_false', Bool.and_eq_true, Bool.or_eq_true, Bool.and_eq_false_iff, Bool.or_eq_false_iff, Option.isNone_some, Option.isSome_some, Option.isNone_none, Option.isSome_none, Int.not_lt, Int.not_le, beq_iff_eq, beq_eq_false_iff_ne, bne_iff_ne, ne_eq, Bool.not_not, Decidable.not_not] at h39
      have hw : wiD ss rs := by simpa using h39
      have hgw : wthV lay rs ss = 0 := by rw [hwi, if_pos hw]
      refine JO.pur rfl rfl rfl (Pur.move rfl) ?_
      refine JO.pur rfl rfl rfl (Pur.len rfl) ?_
      refine JO.pur rfl rfl rfl (Pur.move rfl) ?_
      refine JO.pur rfl rfl rfl (Pur.len rfl) ?_
      refine JO.pur rfl rfl rfl (Pur.neqI rfl rfl) ?_
      refine JO.pur rfl rfl rfl (Pur.pickF rfl rfl) ?_
      refine JO.nil ?_
      refine J.splitB 45 rfl (fun h45 => ?_) (fun h45 => ?_)
      · try simp only [decide_eq_true_eq, decide_eq_false_iff_not, Bool.not_eq_true', Bool.not_eq_false', Bool.and_eq_true, Bool.or_eq_true, Bool.and_eq_false_iff, Bool.or_eq_false_iff, Option.isNone_some, Option.isSome_some, Option.isNone_none, Option.isSome_none, Int.not_lt, Int.not_le, beq_iff_eq, beq_eq_false_iff_ne, bne_iff_ne, ne_eq, Bool.not_not, Decidable.not_not] at h45
        have hlen : xs.length ≠ cntD rs := by omega
        refine J.condT rfl rfl ?_
        refine J.seq rfl ?_
        refine J.region rfl ?_
        refine JO.pur rfl rfl rfl (Pur.assign rfl) ?_
        refine JO.pur rfl rfl rfl (Pur.assign rfl) ?_
        refine JO.nil ?_
        refine J.ret rfl rfl ?_
        have hv : cutV lay rs xs ss = ([], 2) := by unfold cutV; rw [if_neg (not_not_intro hgw), if_pos hlen]
        refine ⟨_, _, ⟨none, 0, rfl, rfl⟩, by rw [hv]; rfl, fun h s => ?_⟩
        rw [hv]; exact sl_nil_new (SubC.out h s)
      · try simp only [decide_eq_true_eq, decide_eq_false_iff_not, Bool.not_eq_true', Bool.not_eq_false', Bool.and_eq_true, Bool.or_eq_true, Bool.and_eq_false_iff, Bool.or_eq_false_iff, Option.isNone_some, Option.isSome_some, Option.isNone_none, Option.isSome_none, Int.not_lt, Int.not_le, beq_iff_eq, beq_eq_false_iff_ne, bne_iff_ne, ne_eq, Bool.not_not, Decidable.not_not] at h45
        have hlen : xs.length = cntD rs := by omega
        refine J.condF rfl rfl ?_
        refine J.skip rfl ?_
        refine J.seq rfl ?_
        refine J.fact (fun h s => RowsR.len (E := intE) (hs := hs) (xss := (ordL (isC lay) rs)) s) fun hn0 => ?_
        have hh0 := rows_len hn0
        refine J.fact (fun h s => RowsR.len (E := intE) (hs := hs2) (xss := (ordL (isC lay) ss)) s) fun hn2 => ?_
        have hh2 := rows_len hn2
        have hrw2 : ∀ y ∈ (ordL (isC lay) rs), y.length ≤ 1000000 := fun y hy => by have := ord_row hy; omega
        refine J.region rfl ?_
        refine JO.pur rfl rfl rfl (Pur.assign rfl) ?_
        refine JO.nil ?_
        refine J.seq rfl ?_
        refine J.seq rfl ?_
        refine J.region rfl ?_
        refine JO.pur rfl rfl rfl (Pur.assign rfl) ?_
        refine JO.nil ?_
        refine J.block rfl ?_
        refine J.loopF (ι := Nat × Option Addr × Nat) (fun q => q.1 ≤ (ordL (isC lay) ss).length) (fun q => [(15, .slice q.2.1 q.1 q.2.2), (16, .int .i64 (q.1 : Int))]) [(2, _), (11, _), (12, _)] (fun q => sl intE q.2.1 q.2.2 ((pickV (isC lay) rs xs (ordL (isC lay) ss)).take q.1) :: sl hE a27 c27 hs :: rows intE hs (ordL (isC lay) rs) :: sl hE a30 c30 hs2 :: rows intE hs2 (ordL (isC lay) ss) :: L) (fun q => (ordL (isC lay) ss).length - q.1) (0, none, 0) rfl (.cons rfl rfl (.cons rfl rfl (.cons rfl rfl .nil))) (.cons rfl rfl (.cons rfl rfl .nil)) (fun h s => by have s2 := sl_nil_new (E := intE) s; dsimp only; rw [List.take_zero]; exact SubC.out (L := sl intE none 0 [] :: _) h s2) (Nat.zero_le _) ?_
        rintro ⟨k, a0, c0⟩ hk ih0
        try dsimp only
        dsimp only at hk
        have hfl : (pickV (isC lay) rs xs (ordL (isC lay) ss)).length = (ordL (isC lay) ss).length := by simp [pickV]
        have htl : ((pickV (isC lay) rs xs (ordL (isC lay) ss)).take k).length = k := by rw [List.length_take]; omega
        refine J.seq rfl ?_
        refine J.seq rfl ?_
        refine J.region rfl ?_
        refine JO.pur rfl rfl rfl (Pur.move rfl) ?_
        refine JO.pur rfl rfl rfl (Pur.move rfl) ?_
        refine JO.pur rfl rfl rfl (Pur.len rfl) ?_
        refine JO.pur rfl rfl rfl (Pur.lss rfl rfl) ?_
        refine JO.nil ?_
        refine J.splitB 49 rfl (fun h49 => ?_) (fun h49 => ?_)
        · try simp only [decide_eq_true_eq, decide_eq_false_iff_not, Bool.not_eq_true', Bool.not_eq_false', Bool.and_eq_true, Bool.or_eq_true, Bool.and_eq_false_iff, Bool.or_eq_false_iff, Option.isNone_some, Option.isSome_some, Option.isNone_none, Option.isSome_none, Int.not_lt, Int.not_le, beq_iff_eq, beq_eq_false_iff_ne, bne_iff_ne, ne_eq, Bool.not_not, Decidable.not_not] at h49
          obtain ⟨x, hX⟩ : ∃ x, (ordL (isC lay) ss)[k]? = some x := ⟨_, List.getElem?_eq_getElem (by omega)⟩
          have hxm := List.mem_of_getElem? hX
          obtain ⟨hz1, hz2⟩ := off_z (c := isC lay) g2.2.2.1 (hw x ((mem_ord g3.2.2.1).1 hxm))
          have hxl := ord_row hxm
          have hap1 := pick_get (c := isC lay) (rs := rs) (xs := xs) hX
          obtain ⟨hd, hH⟩ : ∃ hd, hs2[k]? = some hd := ⟨_, List.getElem?_eq_getElem (by omega)⟩
          have hdn := hdr_n hn2 hH hX
          have hfi : findL (ordL (isC lay) rs) x = ((offZ (isC lay) rs x : Nat) : Int) := by rw [findL_off g2.2.2.1, hz1]
          refine J.condT rfl rfl ?_
          refine J.skip rfl ?_
          refine J.seq rfl ?_
          refine J.block rfl ?_
          refine J.region rfl ?_
          refine JO.pur rfl rfl rfl (Pur.move rfl) ?_
          refine JO.pur rfl rfl rfl (Pur.move rfl) ?_
          refine JO.pur rfl rfl rfl (Pur.move rfl) ?_
          refine JO.pur rfl rfl rfl (Pur.move rfl) ?_
          refine JO.pur rfl rfl rfl (Pur.move rfl) ?_
          refine JO.pur rfl rfl rfl (Pur.idx rfl rfl rfl (by first | rfl | (simp; done) | omega) rfl (by omega)) ?_
          refine JO.pur rfl rfl rfl (Pur.load rfl (CellIn.el0 rfl hH rfl)) ?_
          refine JO.setv (u' := .slice hd.a hd.n hd.cap) 58 rfl rfl ?_
          refine JO.effR rfl rfl rfl (Eff.call rfl (@rfind _ _ _ _ _ _ _ hs (ordL (isC lay) rs) x inferInstance (by infer_instance) (RowsR.row (E := intE) inferInstance hH hX) (by omega) hdn hrw2 (by omega))) ?_
          rw [hfi]
          refine JO.pur rfl rfl rfl (Pur.idx rfl rfl rfl (by first | rfl | (simp; done) | omega) rfl (by omega)) ?_
          refine JO.pur rfl rfl rfl (Pur.load rfl (CellIn.el0 rfl (getD_at 0 (by omega)) rfl)) ?_
          refine JO.eff rfl rfl rfl (Eff.buildSlice intE [xs.getD (offZ (isC lay) rs x) 0] rfl rfl rfl rfl rfl rfl rfl) ?_
          rintro _ _ ⟨b62, rfl, -, rfl⟩
          refine JO.eff rfl rfl rfl (Eff.append rfl rfl rfl rfl (by first | rfl | omega | (simp; done) | (simp; omega)) (by first | rfl | omega | (simp; done) | (simp; omega)) (by decide) (by simp; omega) (by simp; omega) (fun h => by cases h)) ?_
          rintro _ _ ⟨a63, c63, rfl, rfl⟩
          refine JO.pur rfl rfl rfl (Pur.assign rfl) ?_
          refine JO.nil ?_
          refine J.inBlock ?_
          refine J.region rfl ?_
          refine JO.pur rfl rfl rfl (Pur.move rfl) ?_
          refine JO.pur rfl rfl rfl (Pur.add rfl rfl (wr64 (by omega))) ?_
          refine JO.pur rfl rfl rfl (Pur.assign rfl) ?_
          refine JO.nil ?_
          exact J.weaken (.cons rfl (by show Value.slice a63 _ c63 = Value.slice a63 (k + 1) c63; rw [htl]; rfl) (.cons rfl (congrArg (Value.int .i64) (by first | rfl | (dsimp only; omega))) (.cons rfl rfl (.cons rfl rfl (.cons rfl rfl .nil))))) (fun h s => by rw [← hap1] at s; exact SubC.out h s) (ih0 (k + 1, a63, c63) (by dsimp only; omega) (by dsimp only; omega))
        · try simp only [decide_eq_true_eq, decide_eq_false_iff_not, Bool.not_eq_true', Bool.not_eq_false', Bool.and_eq_true, Bool.or_eq_true, Bool.and_eq_false_iff, Bool.or_eq_false_iff, Option.isNone_some, Option.isSome_some, Option.isNone_none, Option.isSome_none, Int.not_lt, Int.not_le, beq_iff_eq, beq_eq_false_iff_ne, bne_iff_ne, ne_eq, Bool.not_not, Decidable.not_not] at h49
          have hke : k = (pickV (isC lay) rs xs (ordL (isC lay) ss)).length := by omega
          refine J.condF rfl rfl ?_
          refine J.exit rfl rfl ?_
          refine J.seq rfl ?_
          refine J.region rfl ?_
          refine JO.pur rfl rfl rfl (Pur.move rfl) ?_
          refine JO.pur rfl rfl rfl (Pur.assign rfl) ?_
          refine JO.pur rfl rfl rfl (Pur.assign rfl) ?_
          refine JO.nil ?_
          refine J.ret rfl rfl ?_
          have hv : cutV lay rs xs ss = ((pickV (isC lay) rs xs (ordL (isC lay) ss)), 0) := by unfold cutV; rw [if_neg (not_not_intro hgw), if_neg (not_not_intro hlen)]
          refine ⟨_, _, ⟨a0, c0, rfl, rfl⟩, by rw [hv, hke]; rfl, fun h s => ?_⟩
          rw [hke, List.take_length] at s
          rw [hv]
          exact SubC.out h s

theorem lLay {L : List Asn} {lay : ByteArray} {a b d e : Option Addr} {n cap m cq vn vc wn wc : Nat} {rs ss : List Rg} {xs ys : List Int} [SlIn rgE L a rs] [SlIn rgE L b ss] [SlIn intE L d xs] [SlIn intE L e ys] (hn : n = rs.length) (hm : m = ss.length) (hv : vn = xs.length) (hw0 : wn = ys.length) (hnil2 : d = none → xs.length = 0 ∧ vc = 0) :
    CallS Try.prog 78 [.string lay, .agg #[.slice a n cap], .slice d vn vc, .agg #[.slice b m cq], .slice e wn wc].toArray L (fun v M => ∃ a' c', v = .tuple #[.slice a' (layV lay rs xs ss ys).1.length c', .int .i64 (layV lay rs xs ss ys).2] ∧ M = sl intE a' c' (layV lay rs xs ss ys).1 :: L) := by
  subst hn
  subst hm
  subst hv
  subst hw0
  refine CallS.ent ?_
  refine CallS.enter Try.func78 rfl rfl rfl rfl rfl ?_
  refine J.seq rfl ?_
  refine J.region rfl ?_
  refine JO.eff rfl rfl rfl (Eff.box (cs := [_]) rfl rfl) ?_
  rintro _ _ ⟨b6, rfl, rfl⟩
  refine JO.eff rfl rfl rfl (Eff.box (cs := [_]) rfl rfl) ?_
  rintro _ _ ⟨b8, rfl, rfl⟩
  refine JO.pur rfl rfl rfl (Pur.assign rfl) ?_
  refine JO.pur rfl rfl rfl (Pur.assign rfl) ?_
  refine JO.nil ?_
  refine J.seq rfl ?_
  refine J.region rfl ?_
  refine JO.pur rfl rfl rfl (Pur.move rfl) ?_
  refine JO.pur rfl rfl rfl (Pur.loadA rfl rfl rfl CellsIn.blk) ?_
  refine JO.pur rfl rfl rfl (Pur.loadA rfl rfl rfl CellsIn.blk) ?_
  refine JO.effR rfl rfl rfl (Eff.call rfl (lwithin (rs := rs) (ss := ss) rfl rfl)) ?_
  refine JO.pur rfl rfl rfl (Pur.assign rfl) ?_
  refine JO.nil ?_
  refine J.seq rfl ?_
  refine J.block rfl ?_
  refine J.seq rfl ?_
  refine J.region rfl ?_
  refine JO.pur rfl rfl rfl (Pur.move rfl) ?_
  refine JO.pur rfl rfl rfl (Pur.neqI rfl rfl) ?_
  refine JO.pur rfl rfl rfl (Pur.assign rfl) ?_
  refine JO.nil ?_
  refine J.splitB 20 rfl (fun h20 => ?_) (fun h20 => ?_)
  · try simp only [decide_eq_true_eq, decide_eq_false_iff_not, Bool.not_eq_true', Bool.not_eq_false', Bool.and_eq_true, Bool.or_eq_true, Bool.and_eq_false_iff, Bool.or_eq_false_iff, Option.isNone_some, Option.isSome_some, Option.isNone_none, Option.isSome_none, Int.not_lt, Int.not_le, beq_iff_eq, beq_eq_false_iff_ne, bne_iff_ne, ne_eq, Bool.not_not, Decidable.not_not] at h20
    have hbad : wthV lay rs ss ≠ 0 := by simpa using h20
    refine J.condT rfl rfl ?_
    refine J.seq rfl ?_
    refine J.region rfl ?_
    refine JO.pur rfl rfl rfl (Pur.move rfl) ?_
    refine JO.pur rfl rfl rfl (Pur.assign rfl) ?_
    refine JO.pur rfl rfl rfl (Pur.assign rfl) ?_
    refine JO.nil ?_
    refine J.ret rfl rfl ?_
    have hv : layV lay rs xs ss ys = ([], wthV lay rs ss) := by unfold layV; rw [if_pos hbad]
    refine ⟨_, _, ⟨none, 0, rfl, rfl⟩, by rw [hv]; rfl, fun h s => ?_⟩
    rw [hv]; exact sl_nil_new (SubC.out h s)
  · try simp only [decide_eq_true_eq, decide_eq_false_iff_not, Bool.not_eq_true', Bool.not_eq_false', Bool.and_eq_true, Bool.or_eq_true, Bool.and_eq_false_iff, Bool.or_eq_false_iff, Option.isNone_some, Option.isSome_some, Option.isNone_none, Option.isSome_none, Int.not_lt, Int.not_le, beq_iff_eq, beq_eq_false_iff_ne, bne_iff_ne, ne_eq, Bool.not_not, Decidable.not_not] at h20
    have hgw : wthV lay rs ss = 0 := by simpa using h20
    obtain ⟨g1, g2, g3, hle, hw⟩ := wthV_ok hgw
    have hct : ctV rs = (cntD rs : Int) := by unfold ctV; rw [if_pos g2]
    have hct2 : ctV ss = (cntD ss : Int) := by unfold ctV; rw [if_pos g3]
    have hc4 := g2.2.2.2
    have hc5 := g3.2.2.2
    have hl3 := g2.2.1
    have hl4 := g3.2.1
    have hol := ord_len2 (isC lay) ss
    have hol1 := ord_len2 (isC lay) rs
    have hofl : (offsL (isC lay) rs ss).length = (ordL (isC lay) ss).length := by simp [offsL]
    refine J.condF rfl rfl ?_
    refine J.seq rfl ?_
    refine J.region rfl ?_
    refine JO.pur rfl rfl rfl (Pur.move rfl) ?_
    refine JO.pur rfl rfl rfl (Pur.len rfl) ?_
    refine JO.pur rfl rfl rfl (Pur.loadA rfl rfl rfl CellsIn.blk) ?_
    refine JO.effR rfl rfl rfl (Eff.call rfl (lcount (rs := rs) rfl)) ?_
    refine JO.pur rfl rfl rfl (Pur.neqI rfl rfl) ?_
    refine JO.pur rfl rfl rfl (Pur.move rfl) ?_
    refine JO.splitB 30 rfl (fun h30 => ?_) (fun h30 => ?_)
    · try simp only [decide_eq_true_eq, decide_eq_false_iff_not, Bool.not_eq_true', Bool.not_eq_false', Bool.and_eq_true, Bool.or_eq_true, Bool.and_eq_false_iff, Bool.or_eq_false_iff, Option.isNone_some, Option.isSome_some, Option.isNone_none, Option.isSome_none, Int.not_lt, Int.not_le, beq_iff_eq, beq_eq_false_iff_ne, bne_iff_ne, ne_eq, Bool.not_not, Decidable.not_not] at h30
      have hlen : xs.length ≠ cntD rs := by rw [hct] at h30; omega
      refine JO.no rfl rfl rfl ?_
      refine JO.no rfl rfl rfl ?_
      refine JO.no rfl rfl rfl ?_
      refine JO.no rfl rfl rfl ?_
      refine JO.no rfl rfl rfl ?_
      refine JO.pur rfl rfl rfl (Pur.pickT rfl rfl) ?_
      refine JO.pur rfl rfl rfl (Pur.assign rfl) ?_
      refine JO.nil ?_
      refine J.condT rfl rfl ?_
      refine J.seq rfl ?_
      refine J.region rfl ?_
      refine JO.pur rfl rfl rfl (Pur.assign rfl) ?_
      refine JO.pur rfl rfl rfl (Pur.assign rfl) ?_
      refine JO.nil ?_
      refine J.ret rfl rfl ?_
      have hv : layV lay rs xs ss ys = ([], 2) := by unfold layV; rw [if_neg (not_not_intro hgw), if_pos (.inl hlen)]
      refine ⟨_, _, ⟨none, 0, rfl, rfl⟩, by rw [hv]; rfl, fun h s => ?_⟩
      rw [hv]; exact sl_nil_new (SubC.out h s)
    · try simp only [decide_eq_true_eq, decide_eq_false_iff_not, Bool.not_eq_true', Bool.not_eq_false', Bool.and_eq_true, Bool.or_eq_true, Bool.and_eq_false_iff, Bool.or_eq_false_iff, Option.isNone_some, Option.isSome_some, Option.isNone_none, Option.isSome_none, Int.not_lt, Int.not_le, beq_iff_eq, beq_eq_false_iff_ne, bne_iff_ne, ne_eq, Bool.not_not, Decidable.not_not] at h30
      have hlen : xs.length = cntD rs := by rw [hct] at h30; omega
      refine JO.pur rfl rfl rfl (Pur.move rfl) ?_
      refine JO.pur rfl rfl rfl (Pur.len rfl) ?_
      refine JO.pur rfl rfl rfl (Pur.loadA rfl rfl rfl CellsIn.blk) ?_
      refine JO.effR rfl rfl rfl (Eff.call rfl (lcount (rs := ss) rfl)) ?_
      refine JO.pur rfl rfl rfl (Pur.neqI rfl rfl) ?_
      refine JO.pur rfl rfl rfl (Pur.pickF rfl rfl) ?_
      refine JO.pur rfl rfl rfl (Pur.assign rfl) ?_
      refine JO.nil ?_
      refine J.splitB 24 rfl (fun h24 => ?_) (fun h24 => ?_)
      · try simp only [decide_eq_true_eq, decide_eq_false_iff_not, Bool.not_eq_true', Bool.not_eq_false', Bool.and_eq_true, Bool.or_eq_true, Bool.and_eq_false_iff, Bool.or_eq_false_iff, Option.isNone_some, Option.isSome_some, Option.isNone_none, Option.isSome_none, Int.not_lt, Int.not_le, beq_iff_eq, beq_eq_false_iff_ne, bne_iff_ne, ne_eq, Bool.not_not, Decidable.not_not] at h24
        have hlen2 : ys.length ≠ cntD ss := by rw [hct2] at h24; omega
        refine J.condT rfl rfl ?_
        refine J.seq rfl ?_
        refine J.region rfl ?_
        refine JO.pur rfl rfl rfl (Pur.assign rfl) ?_
        refine JO.pur rfl rfl rfl (Pur.assign rfl) ?_
        refine JO.nil ?_
        refine J.ret rfl rfl ?_
        have hv : layV lay rs xs ss ys = ([], 2) := by unfold layV; rw [if_neg (not_not_intro hgw), if_pos (.inr hlen2)]
        refine ⟨_, _, ⟨none, 0, rfl, rfl⟩, by rw [hv]; rfl, fun h s => ?_⟩
        rw [hv]; exact sl_nil_new (SubC.out h s)
      · try simp only [decide_eq_true_eq, decide_eq_false_iff_not, Bool.not_eq_true', Bool.not_eq_false', Bool.and_eq_true, Bool.or_eq_true, Bool.and_eq_false_iff, Bool.or_eq_false_iff, Option.isNone_some, Option.isSome_some, Option.isNone_none, Option.isSome_none, Int.not_lt, Int.not_le, beq_iff_eq, beq_eq_false_iff_ne, bne_iff_ne, ne_eq, Bool.not_not, Decidable.not_not] at h24
        have hlen2 : ys.length = cntD ss := by rw [hct2] at h24; omega
        refine J.condF rfl rfl ?_
        refine J.skip rfl ?_
        refine J.inBlock ?_
        refine J.seq rfl ?_
        refine J.region rfl ?_
        refine JO.pur rfl rfl rfl (Pur.move rfl) ?_
        refine JO.eff rfl rfl rfl (Eff.call rfl (cloneI (xs := xs) rfl (by omega) hnil2)) ?_
        rintro _ _ ⟨a38, c38, ⟨rfl, -⟩, rfl⟩
        refine JO.pur rfl rfl rfl (Pur.assign rfl) ?_
        refine JO.nil ?_
        refine J.seq rfl ?_
        refine J.seq rfl ?_
        refine J.region rfl ?_
        refine JO.pur rfl rfl rfl (Pur.move rfl) ?_
        refine JO.pur rfl rfl rfl (Pur.loadA rfl rfl rfl CellsIn.blk) ?_
        refine JO.pur rfl rfl rfl (Pur.loadA rfl rfl rfl CellsIn.blk) ?_
        refine JO.eff rfl rfl rfl (Eff.call rfl (loffsets (rs := rs) (ss := ss) rfl rfl g2 g3)) ?_
        rintro _ _ ⟨a42, c42, rfl, rfl⟩
        refine JO.pur rfl rfl rfl (Pur.len rfl) ?_
        refine JO.pur rfl rfl rfl (Pur.move rfl) ?_
        refine JO.nil ?_
        refine J.block rfl ?_
        refine J.loopF (ι := Nat) (fun q => q ≤ (ordL (isC lay) ss).length) (fun q => [(44, .int .i64 (q : Int))]) [(4, _), (13, _), (42, _), (43, _)] (fun q => sl intE a38 c38 (layL (isC lay) rs ss xs ys q) :: sl intE a42 c42 (offsL (isC lay) rs ss) :: L) (fun q => (ordL (isC lay) ss).length - q) 0 rfl (.cons rfl rfl (.cons rfl rfl (.cons rfl rfl (.cons rfl rfl .nil)))) (.cons rfl rfl .nil) (fun h s => by rw [layL_zero]; (try rw [List.nil_append] at s); exact SubC.out h s) (Nat.zero_le _) ?_
        rintro k hk ihk
        try dsimp only
        refine J.seq rfl ?_
        refine J.region rfl ?_
        refine JO.pur rfl rfl rfl (Pur.lss rfl rfl) ?_
        refine JO.nil ?_
        refine J.seq rfl ?_
        refine J.splitB 45 rfl (fun h45 => ?_) (fun h45 => ?_)
        · try simp only [decide_eq_true_eq, decide_eq_false_iff_not, Bool.not_eq_true', Bool.not_eq_false', Bool.and_eq_true, Bool.or_eq_true, Bool.and_eq_false_iff, Bool.or_eq_false_iff, Option.isNone_some, Option.isSome_some, Option.isNone_none, Option.isSome_none, Int.not_lt, Int.not_le, beq_iff_eq, beq_eq_false_iff_ne, bne_iff_ne, ne_eq, Bool.not_not, Decidable.not_not] at h45
          obtain ⟨x, hX⟩ : ∃ x, (ordL (isC lay) ss)[k]? = some x := ⟨_, List.getElem?_eq_getElem (by omega)⟩
          have hxm := List.mem_of_getElem? hX
          obtain ⟨hz1, hz2⟩ := off_z (c := isC lay) g2.2.2.1 (hw x ((mem_ord g3.2.2.1).1 hxm))
          have hof : (offsL (isC lay) rs ss)[k]? = some ((offZ (isC lay) rs x : Nat) : Int) := by unfold offsL; rw [List.getElem?_map, hX]; rfl
          have hst := layL_succ (rs := rs) (xs := xs) (ys := ys) hX
          have hll := layL_len (isC lay) rs ss xs ys k
          refine J.condT rfl rfl ?_
          refine J.skip rfl ?_
          refine J.seq rfl ?_
          refine J.block rfl ?_
          refine J.seq rfl ?_
          refine J.region rfl ?_
          refine JO.pur rfl rfl rfl (Pur.move rfl) ?_
          refine JO.pur rfl rfl rfl (Pur.idx rfl rfl rfl (by first | rfl | (simp; done) | omega) rfl (by omega)) ?_
          refine JO.pur rfl rfl rfl (Pur.load rfl (CellIn.el0 rfl hof rfl)) ?_
          refine JO.pur rfl rfl rfl (Pur.assign rfl) ?_
          refine JO.pur rfl rfl rfl (Pur.assign rfl) ?_
          refine JO.nil ?_
          refine J.region rfl ?_
          refine JO.pur rfl rfl rfl (Pur.move rfl) ?_
          refine JO.pur rfl rfl rfl (Pur.move rfl) ?_
          refine JO.pur rfl rfl rfl (Pur.move rfl) ?_
          refine JO.pur rfl rfl rfl (Pur.move rfl) ?_
          refine JO.pur rfl rfl rfl (Pur.idx rfl rfl rfl (by first | rfl | (simp; done) | omega) rfl (by omega)) ?_
          refine JO.pur rfl rfl rfl (Pur.load rfl (CellIn.el0 rfl (getD_at 0 (by omega)) rfl)) ?_
          refine JO.pur rfl rfl rfl (Pur.idx rfl rfl rfl (by first | rfl | (simp; done) | omega) rfl (by omega)) ?_
          refine JO.effN rfl rfl (Eff.storeS0 (z' := (ys.getD k 0)) rfl rfl rfl rfl (List.getElem?_eq_getElem (by omega)) .head) ?_
          rintro _ _ ⟨rfl, rfl⟩
          refine JO.nil ?_
          refine J.inBlock ?_
          refine J.region rfl ?_
          refine JO.pur rfl rfl rfl (Pur.add rfl rfl (wr64 (by omega))) ?_
          refine JO.pur rfl rfl rfl (Pur.move rfl) ?_
          refine JO.nil ?_
          exact J.weaken (.cons rfl (congrArg (Value.int .i64) (by first | rfl | (dsimp only; omega))) (.cons rfl rfl (.cons rfl rfl (.cons rfl rfl (.cons rfl rfl .nil))))) (fun h s => by rw [hst]; exact SubC.out h s) (ihk (k + 1) (by omega) (by omega))
        · try simp only [decide_eq_true_eq, decide_eq_false_iff_not, Bool.not_eq_true', Bool.not_eq_false', Bool.and_eq_true, Bool.or_eq_true, Bool.and_eq_false_iff, Bool.or_eq_false_iff, Option.isNone_some, Option.isSome_some, Option.isNone_none, Option.isSome_none, Int.not_lt, Int.not_le, beq_iff_eq, beq_eq_false_iff_ne, bne_iff_ne, ne_eq, Bool.not_not, Decidable.not_not] at h45
          have hke : k = (ordL (isC lay) ss).length := by omega
          refine J.condF rfl rfl ?_
          refine J.exit rfl rfl ?_
          refine J.seq rfl ?_
          refine J.region rfl ?_
          refine JO.pur rfl rfl rfl (Pur.move rfl) ?_
          refine JO.pur rfl rfl rfl (Pur.assign rfl) ?_
          refine JO.pur rfl rfl rfl (Pur.assign rfl) ?_
          refine JO.nil ?_
          refine J.ret rfl rfl ?_
          have hv : layV lay rs xs ss ys = ((layL (isC lay) rs ss xs ys (ordL (isC lay) ss).length), 0) := by unfold layV; rw [if_neg (not_not_intro hgw), if_neg (by rintro (e | e); exact e hlen; exact e hlen2)]
          refine ⟨_, _, ⟨a38, c38, rfl, rfl⟩, by rw [hv]; dsimp only; rw [layL_len]; rfl, fun h s => ?_⟩
          rw [hke] at s
          rw [hv]
          exact SubC.out h s

theorem rLay {L : List Asn} {lay : ByteArray} {a b d e : Option Addr} {n cap m cq vn vc wn wc : Nat} {rs ss : List Rg} {xs ys : List Int} [SlIn rgE L a rs] [SlIn rgE L b ss] [SlIn intE L d xs] [SlIn intE L e ys] (hn : n = rs.length) (hm : m = ss.length) (hv : vn = xs.length) (hw0 : wn = ys.length) (hnil2 : d = none → xs.length = 0 ∧ vc = 0) :
    CallS Try.prog 79 [.string lay, .agg #[.slice a n cap], .slice d vn vc, .agg #[.slice b m cq], .slice e wn wc].toArray L (fun v M => ∃ a' c', v = .tuple #[.slice a' (layV lay rs xs ss ys).1.length c', .int .i64 (layV lay rs xs ss ys).2] ∧ M = sl intE a' c' (layV lay rs xs ss ys).1 :: L) := by
  subst hn
  subst hm
  subst hv
  subst hw0
  refine CallS.ent ?_
  refine CallS.enter Try.func79 rfl rfl rfl rfl rfl ?_
  refine J.seq rfl ?_
  refine J.region rfl ?_
  refine JO.eff rfl rfl rfl (Eff.box (cs := [_]) rfl rfl) ?_
  rintro _ _ ⟨b6, rfl, rfl⟩
  refine JO.eff rfl rfl rfl (Eff.box (cs := [_]) rfl rfl) ?_
  rintro _ _ ⟨b8, rfl, rfl⟩
  refine JO.pur rfl rfl rfl (Pur.assign rfl) ?_
  refine JO.pur rfl rfl rfl (Pur.assign rfl) ?_
  refine JO.nil ?_
  refine J.seq rfl ?_
  refine J.seq rfl ?_
  refine J.region rfl ?_
  refine JO.pur rfl rfl rfl (Pur.move rfl) ?_
  refine JO.pur rfl rfl rfl (Pur.loadA rfl rfl rfl CellsIn.blk) ?_
  refine JO.pur rfl rfl rfl (Pur.move rfl) ?_
  refine JO.pur rfl rfl rfl (Pur.loadA rfl rfl rfl CellsIn.blk) ?_
  refine JO.eff rfl rfl rfl (Eff.call rfl (rCut (rs := rs) (ss := ss) (xs := xs) rfl rfl rfl)) ?_
  rintro _ _ ⟨a23, c23, rfl, rfl⟩
  refine JO.pur rfl rfl rfl (Pur.move rfl) ?_
  refine JO.pur rfl rfl rfl (Pur.extract rfl rfl) ?_
  refine JO.pur rfl rfl rfl (Pur.extract rfl rfl) ?_
  refine JO.setv (u' := .int .i64 (cutV lay rs xs ss).2) 25 rfl rfl ?_
  refine JO.pur rfl rfl rfl (Pur.assign rfl) ?_
  refine JO.pur rfl rfl rfl (Pur.assign rfl) ?_
  refine JO.nil ?_
  refine J.seq rfl ?_
  refine J.region rfl ?_
  refine JO.pur rfl rfl rfl (Pur.move rfl) ?_
  refine JO.pur rfl rfl rfl (Pur.neqI rfl rfl) ?_
  refine JO.nil ?_
  refine J.splitB 27 rfl (fun h27 => ?_) (fun h27 => ?_)
  · try simp only [decide_eq_true_eq, decide_eq_false_iff_not, Bool.not_eq_true', Bool.not_eq_false', Bool.and_eq_true, Bool.or_eq_true, Bool.and_eq_false_iff, Bool.or_eq_false_iff, Option.isNone_some, Option.isSome_some, Option.isNone_none, Option.isSome_none, Int.not_lt, Int.not_le, beq_iff_eq, beq_eq_false_iff_ne, bne_iff_ne, ne_eq, Bool.not_not, Decidable.not_not] at h27
    have hcb : (cutV lay rs xs ss).2 ≠ 0 := by simpa using h27
    have hv : layV lay rs xs ss ys = ([], (cutV lay rs xs ss).2) := by
      unfold cutV at hcb ⊢; unfold layV
      by_cases e1 : wthV lay rs ss = 0 <;> by_cases e2 : xs.length = cntD rs <;> simp_all
    refine J.condT rfl rfl ?_
    refine J.seq rfl ?_
    refine J.region rfl ?_
    refine JO.pur rfl rfl rfl (Pur.move rfl) ?_
    refine JO.pur rfl rfl rfl (Pur.assign rfl) ?_
    refine JO.pur rfl rfl rfl (Pur.assign rfl) ?_
    refine JO.nil ?_
    refine J.ret rfl rfl ?_
    refine ⟨_, _, ⟨none, 0, rfl, rfl⟩, by rw [hv]; rfl, fun h s => ?_⟩
    rw [hv]; exact sl_nil_new (SubC.out h s)
  · try simp only [decide_eq_true_eq, decide_eq_false_iff_not, Bool.not_eq_true', Bool.not_eq_false', Bool.and_eq_true, Bool.or_eq_true, Bool.and_eq_false_iff, Bool.or_eq_false_iff, Option.isNone_some, Option.isSome_some, Option.isNone_none, Option.isSome_none, Int.not_lt, Int.not_le, beq_iff_eq, beq_eq_false_iff_ne, bne_iff_ne, ne_eq, Bool.not_not, Decidable.not_not] at h27
    have hcb : (cutV lay rs xs ss).2 = 0 := by simpa using h27
    have hgw : wthV lay rs ss = 0 := by
      unfold cutV at hcb
      by_cases e1 : wthV lay rs ss = 0
      · exact e1
      · rw [if_pos e1] at hcb; exact hcb
    have hlen : xs.length = cntD rs := by
      unfold cutV at hcb
      by_cases e1 : xs.length = cntD rs
      · exact e1
      · rw [if_neg (not_not_intro hgw), if_pos e1] at hcb; cases hcb
    obtain ⟨g1, g2, g3, hle, hw⟩ := wthV_ok hgw
    have hc4 := g2.2.2.2
    have hc5 := g3.2.2.2
    have hl3 := g2.2.1
    have hl4 := g3.2.1
    have hol := ord_len2 (isC lay) ss
    have hol1 := ord_len2 (isC lay) rs
    refine J.condF rfl rfl ?_
    refine J.skip rfl ?_
    refine J.seq rfl ?_
    refine J.mask0 (n := 8) [] rfl Try.mixed rfl (by kernel_rfl) ?_
    refine JM.take 0 (fun _ h => h) rfl (by kernel_rfl) rfl rfl rfl (m' := 1) rfl (Pur.move rfl) ?_
    refine JM.take 1 (fun _ h => h) rfl (by kernel_rfl) rfl rfl rfl (m' := 3) rfl (Pur.loadA rfl rfl rfl CellsIn.blk) ?_
    refine JM.take 3 (fun _ h => h) rfl (by kernel_rfl) rfl rfl rfl (m' := 11) rfl (Pur.move rfl) ?_
    refine JM.take 4 (fun _ h => h) rfl (by kernel_rfl) rfl rfl rfl (m' := 27) rfl (Pur.loadA rfl rfl rfl CellsIn.blk) ?_
    refine JM.one (i := 2) (by kernel_rfl) ?_
    refine JMi.eff rfl rfl rfl rfl (m' := 31) rfl (Eff.call rfl (rorder (rs := rs) rfl g2 g1)) ?_
    rintro _ _ ⟨a31, c31, hs, rfl, rfl⟩
    refine ⟨.inr (fun _ h => h.tail.tail), ?_⟩
    refine JM.one (i := 5) (by kernel_rfl) ?_
    refine JMi.eff rfl rfl rfl rfl (m' := 63) rfl (Eff.call rfl (rorder (rs := ss) rfl g3 g1)) ?_
    rintro _ _ ⟨a34, c34, hs2, rfl, rfl⟩
    refine ⟨.inr (fun _ h => h.tail.tail.tail.tail), ?_⟩
    refine JM.take 6 (fun _ h => h.tail.tail.tail.tail) rfl (by kernel_rfl) rfl rfl rfl (m' := 127) rfl (Pur.assign rfl) ?_
    refine JM.take 7 (fun _ h => h.tail.tail.tail.tail) rfl (by kernel_rfl) rfl rfl rfl (m' := 255) rfl (Pur.assign rfl) ?_
    refine JM.done rfl ?_
    refine J.seq rfl ?_
    refine J.seq rfl ?_
    refine J.region rfl ?_
    refine JO.pur rfl rfl rfl (Pur.move rfl) ?_
    refine JO.pur rfl rfl rfl (Pur.len rfl) ?_
    refine JO.pur rfl rfl rfl (Pur.move rfl) ?_
    refine JO.pur rfl rfl rfl (Pur.len rfl) ?_
    refine JO.pur rfl rfl rfl (Pur.neqI rfl rfl) ?_
    refine JO.nil ?_
    refine J.splitB 39 rfl (fun h39 => ?_) (fun h39 => ?_)
    · try simp only [decide_eq_true_eq, decide_eq_false_iff_not, Bool.not_eq_true', Bool.not_eq_false', Bool.and_eq_true, Bool.or_eq_true, Bool.and_eq_false_iff, Bool.or_eq_false_iff, Option.isNone_some, Option.isSome_some, Option.isNone_none, Option.isSome_none, Int.not_lt, Int.not_le, beq_iff_eq, beq_eq_false_iff_ne, bne_iff_ne, ne_eq, Bool.not_not, Decidable.not_not] at h39
      have hlen2 : ys.length ≠ cntD ss := by omega
      refine J.condT rfl rfl ?_
      refine J.seq rfl ?_
      refine J.region rfl ?_
      refine JO.pur rfl rfl rfl (Pur.assign rfl) ?_
      refine JO.pur rfl rfl rfl (Pur.assign rfl) ?_
      refine JO.nil ?_
      refine J.ret rfl rfl ?_
      have hv : layV lay rs xs ss ys = ([], 2) := by unfold layV; rw [if_neg (not_not_intro hgw), if_pos (.inr hlen2)]
      refine ⟨_, _, ⟨none, 0, rfl, rfl⟩, by rw [hv]; rfl, fun h s => ?_⟩
      rw [hv]; exact sl_nil_new (SubC.out h s)
    · try simp only [decide_eq_true_eq, decide_eq_false_iff_not, Bool.not_eq_true', Bool.not_eq_false', Bool.and_eq_true, Bool.or_eq_true, Bool.and_eq_false_iff, Bool.or_eq_false_iff, Option.isNone_some, Option.isSome_some, Option.isNone_none, Option.isSome_none, Int.not_lt, Int.not_le, beq_iff_eq, beq_eq_false_iff_ne, bne_iff_ne, ne_eq, Bool.not_not, Decidable.not_not] at h39
      have hlen2 : ys.length = cntD ss := by omega
      refine J.condF rfl rfl ?_
      refine J.skip rfl ?_
      refine J.seq rfl ?_
      refine J.fact (fun h s => RowsR.len (E := intE) (hs := hs) (xss := (ordL (isC lay) rs)) s) fun hn0 => ?_
      have hh0 := rows_len hn0
      refine J.fact (fun h s => RowsR.len (E := intE) (hs := hs2) (xss := (ordL (isC lay) ss)) s) fun hn2 => ?_
      have hh2 := rows_len hn2
      have hrw2 : ∀ y ∈ (ordL (isC lay) rs), y.length ≤ 1000000 := fun y hy => by have := ord_row hy; omega
      refine J.region rfl ?_
      refine JO.eff rfl rfl rfl (Eff.buildSlice intE ([] : List Int) rfl rfl rfl rfl rfl rfl rfl) ?_
      rintro _ _ ⟨b40, rfl, -, rfl⟩
      refine JO.pur rfl rfl rfl (Pur.move rfl) ?_
      refine JO.eff rfl rfl rfl (Eff.append rfl rfl rfl rfl (by first | rfl | omega | (simp; done) | (simp; omega)) (by first | rfl | omega | (simp; done) | (simp; omega)) (by decide) (by simp; omega) (by simp; omega) hnil2) ?_
      rintro _ _ ⟨a42, c42, rfl, rfl⟩
      refine JO.setv (u' := .slice a42 xs.length c42) 42 rfl (by simp) ?_
      refine JO.pur rfl rfl rfl (Pur.assign rfl) ?_
      refine JO.nil ?_
      refine J.seq rfl ?_
      refine J.seq rfl ?_
      refine J.region rfl ?_
      refine JO.pur rfl rfl rfl (Pur.assign rfl) ?_
      refine JO.nil ?_
      refine J.block rfl ?_
      refine J.loopF (ι := Nat) (fun q => q ≤ (ordL (isC lay) ss).length) (fun q => [(17, .int .i64 (q : Int))]) [(4, _), (14, _), (15, _), (16, _)] (fun q => sl intE a42 c42 (layL (isC lay) rs ss xs ys q) :: sl hE a31 c31 hs :: rows intE hs (ordL (isC lay) rs) :: sl hE a34 c34 hs2 :: rows intE hs2 (ordL (isC lay) ss) :: L) (fun q => (ordL (isC lay) ss).length - q) 0 rfl (.cons rfl rfl (.cons rfl rfl (.cons rfl rfl (.cons rfl rfl .nil)))) (.cons rfl rfl .nil) (fun h s => by rw [layL_zero]; (try rw [List.nil_append] at s); exact SubC.out h s) (Nat.zero_le _) ?_
      rintro k hk ihk
      try dsimp only
      refine J.seq rfl ?_
      refine J.seq rfl ?_
      refine J.region rfl ?_
      refine JO.pur rfl rfl rfl (Pur.move rfl) ?_
      refine JO.pur rfl rfl rfl (Pur.move rfl) ?_
      refine JO.pur rfl rfl rfl (Pur.len rfl) ?_
      refine JO.pur rfl rfl rfl (Pur.lss rfl rfl) ?_
      refine JO.nil ?_
      refine J.splitB 46 rfl (fun h46 => ?_) (fun h46 => ?_)
      · try simp only [decide_eq_true_eq, decide_eq_false_iff_not, Bool.not_eq_true', Bool.not_eq_false', Bool.and_eq_true, Bool.or_eq_true, Bool.and_eq_false_iff, Bool.or_eq_false_iff, Option.isNone_some, Option.isSome_some, Option.isNone_none, Option.isSome_none, Int.not_lt, Int.not_le, beq_iff_eq, beq_eq_false_iff_ne, bne_iff_ne, ne_eq, Bool.not_not, Decidable.not_not] at h46
        obtain ⟨x, hX⟩ : ∃ x, (ordL (isC lay) ss)[k]? = some x := ⟨_, List.getElem?_eq_getElem (by omega)⟩
        have hxm := List.mem_of_getElem? hX
        obtain ⟨hz1, hz2⟩ := off_z (c := isC lay) g2.2.2.1 (hw x ((mem_ord g3.2.2.1).1 hxm))
        have hxl := ord_row hxm
        have hst := layL_succ (rs := rs) (xs := xs) (ys := ys) hX
        have hll := layL_len (isC lay) rs ss xs ys k
        obtain ⟨hd, hH⟩ : ∃ hd, hs2[k]? = some hd := ⟨_, List.getElem?_eq_getElem (by omega)⟩
        have hdn := hdr_n hn2 hH hX
        have hfi : findL (ordL (isC lay) rs) x = ((offZ (isC lay) rs x : Nat) : Int) := by rw [findL_off g2.2.2.1, hz1]
        refine J.condT rfl rfl ?_
        refine J.skip rfl ?_
        refine J.seq rfl ?_
        refine J.block rfl ?_
        refine J.mask0 (n := 13) [12] rfl Try.mixed rfl (by kernel_rfl) ?_
        refine JM.take 0 (fun _ h => h) rfl (by kernel_rfl) rfl rfl rfl (m' := 1) rfl (Pur.move rfl) ?_
        refine JM.take 1 (fun _ h => h) rfl (by kernel_rfl) rfl rfl rfl (m' := 3) rfl (Pur.move rfl) ?_
        refine JM.take 2 (fun _ h => h) rfl (by kernel_rfl) rfl rfl rfl (m' := 7) rfl (Pur.move rfl) ?_
        refine JM.take 3 (fun _ h => h) rfl (by kernel_rfl) rfl rfl rfl (m' := 15) rfl (Pur.move rfl) ?_
        refine JM.take 4 (fun _ h => h) rfl (by kernel_rfl) rfl rfl rfl (m' := 31) rfl (Pur.idx rfl rfl rfl (by first | rfl | (simp; done) | omega) rfl (by omega)) ?_
        refine JM.take 5 (fun _ h => h) rfl (by kernel_rfl) rfl rfl rfl (m' := 63) rfl (Pur.load rfl (CellIn.el0 rfl hH rfl)) ?_
        refine JM.setv (u' := .slice hd.a hd.n hd.cap) 54 rfl rfl ?_
        refine JM.take 7 (fun _ h => h) rfl (by kernel_rfl) rfl rfl rfl (m' := 191) rfl (Pur.move rfl) ?_
        refine JM.take 8 (fun _ h => h) rfl (by kernel_rfl) rfl rfl rfl (m' := 447) rfl (Pur.move rfl) ?_
        refine JM.take 9 (fun _ h => h) rfl (by kernel_rfl) rfl rfl rfl (m' := 959) rfl (Pur.idx rfl rfl rfl (by first | rfl | (simp; done) | omega) rfl (by omega)) ?_
        refine JM.take 10 (fun _ h => h) rfl (by kernel_rfl) rfl rfl rfl (m' := 1983) rfl (Pur.load rfl (CellIn.el0 rfl (getD_at 0 (by omega)) rfl)) ?_
        refine JM.one (i := 6) (by kernel_rfl) ?_
        refine JMi.effR (fun _ h => h) rfl rfl rfl rfl (m' := 2047) rfl (Eff.call rfl (@rfind _ _ _ _ _ _ _ hs (ordL (isC lay) rs) x inferInstance (by infer_instance) (RowsR.row (E := intE) inferInstance hH hX) (by omega) hdn hrw2 (by omega))) ?_
        rw [hfi]
        refine JM.take 11 (fun _ h => h) rfl (by kernel_rfl) rfl rfl rfl (m' := 4095) rfl (Pur.idx rfl rfl rfl (by first | rfl | (simp; done) | omega) rfl (by omega)) ?_
        refine JM.one (i := 12) (by kernel_rfl) ?_
        refine JMi.effN rfl rfl rfl (m' := 8191) rfl (Eff.storeS0 (z' := (ys.getD k 0)) rfl rfl rfl rfl (List.getElem?_eq_getElem (by omega)) .head) ?_
        rintro _ _ ⟨rfl, rfl⟩
        refine ⟨.inl (by simp), ?_⟩
        refine JM.done rfl ?_
        refine J.inBlock ?_
        refine J.region rfl ?_
        refine JO.pur rfl rfl rfl (Pur.move rfl) ?_
        refine JO.pur rfl rfl rfl (Pur.add rfl rfl (wr64 (by omega))) ?_
        refine JO.pur rfl rfl rfl (Pur.assign rfl) ?_
        refine JO.nil ?_
        exact J.weaken (.cons rfl (congrArg (Value.int .i64) (by first | rfl | (dsimp only; omega))) (.cons rfl rfl (.cons rfl rfl (.cons rfl rfl (.cons rfl rfl .nil))))) (fun h s => by rw [hst]; exact SubC.out h s) (ihk (k + 1) (by omega) (by omega))
      · try simp only [decide_eq_true_eq, decide_eq_false_iff_not, Bool.not_eq_true', Bool.not_eq_false', Bool.and_eq_true, Bool.or_eq_true, Bool.and_eq_false_iff, Bool.or_eq_false_iff, Option.isNone_some, Option.isSome_some, Option.isNone_none, Option.isSome_none, Int.not_lt, Int.not_le, beq_iff_eq, beq_eq_false_iff_ne, bne_iff_ne, ne_eq, Bool.not_not, Decidable.not_not] at h46
        have hke : k = (ordL (isC lay) ss).length := by omega
        refine J.condF rfl rfl ?_
        refine J.exit rfl rfl ?_
        refine J.seq rfl ?_
        refine J.region rfl ?_
        refine JO.pur rfl rfl rfl (Pur.move rfl) ?_
        refine JO.pur rfl rfl rfl (Pur.assign rfl) ?_
        refine JO.pur rfl rfl rfl (Pur.assign rfl) ?_
        refine JO.nil ?_
        refine J.ret rfl rfl ?_
        have hv : layV lay rs xs ss ys = ((layL (isC lay) rs ss xs ys (ordL (isC lay) ss).length), 0) := by unfold layV; rw [if_neg (not_not_intro hgw), if_neg (by rintro (e | e); exact e hlen; exact e hlen2)]
        refine ⟨_, _, ⟨a42, c42, rfl, rfl⟩, by rw [hv]; dsimp only; rw [layL_len]; rfl, fun h s => ?_⟩
        rw [hke] at s
        rw [hv]
        exact SubC.out h s

end Go.Proofs.Ytnhippfllgnngaa
