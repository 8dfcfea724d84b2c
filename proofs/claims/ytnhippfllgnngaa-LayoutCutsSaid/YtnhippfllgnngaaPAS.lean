/-
  A part of the proof of the claim that this folder bears.
-/
import Derived.Test.YtnhippfllgnngaaPAR
/- The text SE6. -/
set_option linter.unusedVariables false
set_option linter.unusedSimpArgs false
set_option maxRecDepth 10000
namespace Go.Proofs.Ytnhippfllgnngaa
open Go Go.KK Dm

def rsz1 (xs : List Int) (o : Option Nat) : Int := match o with | some n => xs.getD n 0 | none => 0
def growV (c : Bool) (rs : List Rg) (xs : List Int) (l : List (List Int)) : List Int := l.map fun x => rsz1 xs (offL c rs x)
def rszV (lay : ByteArray) (rs : List Rg) (xs : List Int) (ss : List Rg) : List Int × Int := if ask2 lay rs ss ≠ 0 then ([], ask2 lay rs ss) else if xs.length ≠ cntD rs ∨ rs.length ≠ ss.length then ([], 2) else (growV (isC lay) rs xs (ordL (isC lay) ss), 0)
theorem grow_get {c : Bool} {rs : List Rg} {xs : List Int} {l : List (List Int)} {k : Nat} {x : List Int} (hX : l[k]? = some x) : (growV c rs xs l).take (k + 1) = (growV c rs xs l).take k ++ [rsz1 xs (offL c rs x)] :=
  take_get (by unfold growV; rw [List.getElem?_map, hX]; rfl)
theorem rAsk2 {lay : ByteArray} {rs ss : List Rg} (h : ask2 lay rs ss ≠ 0) : rAskV lay lay rs ss = ask2 lay rs ss := by
  unfold ask2 at h ⊢; unfold rAskV
  by_cases h1 : okL lay
  · by_cases h2 : okD rs ∧ okD ss
    · simp [h1, h2] at h
    · have h5 : (okD rs → ¬ okD ss) := fun a b => h2 ⟨a, b⟩
      simp [h1, h2, h5]
  · simp [h1]
theorem rAsk2_in {lay : ByteArray} {rs ss : List Rg} (h : ask2 lay rs ss = 0) : rAskV lay lay rs ss = if rs.length ≠ ss.length then 2 else 0 := by
  obtain ⟨h1, h2, h3⟩ := ask2_ok h
  unfold rAskV; simp [h1, h2, h3]
theorem lResize {L : List Asn} {lay : ByteArray} {a b d : Option Addr} {n cap m cq vn vc : Nat} {rs ss : List Rg} {xs : List Int} [SlIn rgE L a rs] [SlIn rgE L b ss] [SlIn intE L d xs] (hn : n = rs.length) (hm : m = ss.length) (hv : vn = xs.length) :
    CallS Try.prog 67 [.string lay, .agg #[.slice a n cap], .slice d vn vc, .agg #[.slice b m cq]].toArray L (fun v M => ∃ a' c', v = .tuple #[.slice a' (rszV lay rs xs ss).1.length c', .int .i64 (rszV lay rs xs ss).2] ∧ M = sl intE a' c' (rszV lay rs xs ss).1 :: L) := by
  subst hn
  subst hm
  subst hv
  refine CallS.ent ?_
  refine CallS.enter Try.func67 rfl rfl rfl rfl rfl ?_
  refine J.seq rfl ?_
  refine J.region rfl ?_
  refine JO.eff rfl rfl rfl (Eff.box (cs := [_]) rfl rfl) ?_
  rintro _ _ ⟨b5, rfl, rfl⟩
  refine JO.eff rfl rfl rfl (Eff.box (cs := [_]) rfl rfl) ?_
  rintro _ _ ⟨b7, rfl, rfl⟩
  refine JO.pur rfl rfl rfl (Pur.assign rfl) ?_
  refine JO.pur rfl rfl rfl (Pur.assign rfl) ?_
  refine JO.nil ?_
  refine J.seq rfl ?_
  refine J.seq rfl ?_
  refine J.region rfl ?_
  refine JO.pur rfl rfl rfl (Pur.move rfl) ?_
  refine JO.eff rfl rfl rfl (Eff.buildSlice stE [lay] rfl rfl rfl rfl rfl rfl rfl) ?_
  rintro _ _ ⟨b18, rfl, -, rfl⟩
  refine JO.pur rfl rfl rfl (Pur.loadA rfl rfl rfl CellsIn.blk) ?_
  refine JO.pur rfl rfl rfl (Pur.loadA rfl rfl rfl CellsIn.blk) ?_
  refine JO.eff rfl rfl rfl (Eff.buildSlice domE [⟨a, rs.length, cap⟩, ⟨b, ss.length, cq⟩] rfl rfl rfl rfl rfl rfl rfl) ?_
  rintro _ _ ⟨b21, rfl, -, rfl⟩
  refine JO.effR rfl rfl rfl (Eff.call rfl (lAsked (ss := [lay]) (hds := [⟨a, rs.length, cap⟩, ⟨b, ss.length, cq⟩]) (ds := [rs, ss]) rfl rfl rfl (by simp) (by simp) (hsl2 rfl rfl))) ?_
  rw [ask2_eq]
  refine JO.pur rfl rfl rfl (Pur.assign rfl) ?_
  refine JO.nil ?_
  refine J.seq rfl ?_
  refine J.region rfl ?_
  refine JO.pur rfl rfl rfl (Pur.move rfl) ?_
  refine JO.pur rfl rfl rfl (Pur.neqI rfl rfl) ?_
  refine JO.nil ?_
  refine J.splitB 24 rfl (fun h24 => ?_) (fun h24 => ?_)
  · try simp only [decide_eq_true_eq, decide_eq_false_iff_not, Bool.not_eq_true', Bool.not_eq_false', Bool.and_eq_true, Bool.or_eq_true, Bool.and_eq_false_iff, Bool.or_eq_false_iff, Option.isNone_some, Option.isSome_some, Option.isNone_none, Option.isSome_none, Int.not_lt, Int.not_le, beq_iff_eq, beq_eq_false_iff_ne, bne_iff_ne, ne_eq, Bool.not_not, Decidable.not_not] at h24
    have h24' : ask2 lay rs ss ≠ 0 := h24
    refine J.condT rfl rfl ?_
    refine J.seq rfl ?_
    refine J.region rfl ?_
    refine JO.pur rfl rfl rfl (Pur.move rfl) ?_
    refine JO.pur rfl rfl rfl (Pur.assign rfl) ?_
    refine JO.pur rfl rfl rfl (Pur.assign rfl) ?_
    refine JO.nil ?_
    refine J.ret rfl rfl ?_
    have hv : rszV lay rs xs ss = ([], ask2 lay rs ss) := by unfold rszV; rw [if_pos h24']
    refine ⟨_, _, ⟨none, 0, rfl, rfl⟩, by rw [hv]; rfl, fun h s => ?_⟩
    rw [hv]; exact sl_nil_new (SubC.out h s)
  · try simp only [decide_eq_true_eq, decide_eq_false_iff_not, Bool.not_eq_true', Bool.not_eq_false', Bool.and_eq_true, Bool.or_eq_true, Bool.and_eq_false_iff, Bool.or_eq_false_iff, Option.isNone_some, Option.isSome_some, Option.isNone_none, Option.isSome_none, Int.not_lt, Int.not_le, beq_iff_eq, beq_eq_false_iff_ne, bne_iff_ne, ne_eq, Bool.not_not, Decidable.not_not] at h24
    have h24' : ask2 lay rs ss = 0 := by simpa using h24
    obtain ⟨g1, g2, g3⟩ := ask2_ok h24'
    have hct : ctV rs = (cntD rs : Int) := by unfold ctV; rw [if_pos g2]
    have hc4 := g2.2.2.2
    have hc5 := g3.2.2.2
    have hl3 := g2.2.1
    have hl4 := g3.2.1
    have hol := ord_len2 (isC lay) ss
    refine J.condF rfl rfl ?_
    refine J.skip rfl ?_
    refine J.seq rfl ?_
    refine J.seq rfl ?_
    refine J.region rfl ?_
    refine JO.pur rfl rfl rfl (Pur.move rfl) ?_
    refine JO.pur rfl rfl rfl (Pur.len rfl) ?_
    refine JO.pur rfl rfl rfl (Pur.loadA rfl rfl rfl CellsIn.blk) ?_
    refine JO.effR rfl rfl rfl (Eff.call rfl (lcount (rs := rs) rfl)) ?_
    refine JO.pur rfl rfl rfl (Pur.neqI rfl rfl) ?_
    refine JO.pur rfl rfl rfl (Pur.move rfl) ?_
    refine JO.splitB 31 rfl (fun h31 => ?_) (fun h31 => ?_)
    · try simp only [decide_eq_true_eq, decide_eq_false_iff_not, Bool.not_eq_true', Bool.not_eq_false', Bool.and_eq_true, Bool.or_eq_true, Bool.and_eq_false_iff, Bool.or_eq_false_iff, Option.isNone_some, Option.isSome_some, Option.isNone_none, Option.isSome_none, Int.not_lt, Int.not_le, beq_iff_eq, beq_eq_false_iff_ne, bne_iff_ne, ne_eq, Bool.not_not, Decidable.not_not] at h31
      have hlen : xs.length ≠ cntD rs := by rw [hct] at h31; omega
      refine JO.no rfl rfl rfl ?_
      refine JO.no rfl rfl rfl ?_
      refine JO.no rfl rfl rfl ?_
      refine JO.no rfl rfl rfl ?_
      refine JO.no rfl rfl rfl ?_
      refine JO.no rfl rfl rfl ?_
      refine JO.no rfl rfl rfl ?_
      refine JO.pur rfl rfl rfl (Pur.pickT rfl rfl) ?_
      refine JO.nil ?_
      refine J.condT rfl rfl ?_
      refine J.seq rfl ?_
      refine J.region rfl ?_
      refine JO.pur rfl rfl rfl (Pur.assign rfl) ?_
      refine JO.pur rfl rfl rfl (Pur.assign rfl) ?_
      refine JO.nil ?_
      refine J.ret rfl rfl ?_
      have hv : rszV lay rs xs ss = ([], 2) := by unfold rszV; rw [if_neg (not_not_intro h24'), if_pos (.inl hlen)]
      refine ⟨_, _, ⟨none, 0, rfl, rfl⟩, by rw [hv]; rfl, fun h s => ?_⟩
      rw [hv]; exact sl_nil_new (SubC.out h s)
    · try simp only [decide_eq_true_eq, decide_eq_false_iff_not, Bool.not_eq_true', Bool.not_eq_false', Bool.and_eq_true, Bool.or_eq_true, Bool.and_eq_false_iff, Bool.or_eq_false_iff, Option.isNone_some, Option.isSome_some, Option.isNone_none, Option.isSome_none, Int.not_lt, Int.not_le, beq_iff_eq, beq_eq_false_iff_ne, bne_iff_ne, ne_eq, Bool.not_not, Decidable.not_not] at h31
      have hlen : xs.length = cntD rs := by rw [hct] at h31; omega
      refine JO.pur rfl rfl rfl (Pur.fieldAddr rfl) ?_
      refine JO.pur rfl rfl rfl (Pur.load rfl (CellIn.blk rfl)) ?_
      refine JO.pur rfl rfl rfl (Pur.len rfl) ?_
      refine JO.pur rfl rfl rfl (Pur.fieldAddr rfl) ?_
      refine JO.pur rfl rfl rfl (Pur.load rfl (CellIn.blk rfl)) ?_
      refine JO.pur rfl rfl rfl (Pur.len rfl) ?_
      refine JO.pur rfl rfl rfl (Pur.neqI rfl rfl) ?_
      refine JO.pur rfl rfl rfl (Pur.pickF rfl rfl) ?_
      refine JO.nil ?_
      refine J.splitB 39 rfl (fun h39 => ?_) (fun h39 => ?_)
      · try simp only [decide_eq_true_eq, decide_eq_false_iff_not, Bool.not_eq_true', Bool.not_eq_false', Bool.and_eq_true, Bool.or_eq_true, Bool.and_eq_false_iff, Bool.or_eq_false_iff, Option.isNone_some, Option.isSome_some, Option.isNone_none, Option.isSome_none, Int.not_lt, Int.not_le, beq_iff_eq, beq_eq_false_iff_ne, bne_iff_ne, ne_eq, Bool.not_not, Decidable.not_not] at h39
        have hle : rs.length ≠ ss.length := by omega
        refine J.condT rfl rfl ?_
        refine J.seq rfl ?_
        refine J.region rfl ?_
        refine JO.pur rfl rfl rfl (Pur.assign rfl) ?_
        refine JO.pur rfl rfl rfl (Pur.assign rfl) ?_
        refine JO.nil ?_
        refine J.ret rfl rfl ?_
        have hv : rszV lay rs xs ss = ([], 2) := by unfold rszV; rw [if_neg (not_not_intro h24'), if_pos (.inr hle)]
        refine ⟨_, _, ⟨none, 0, rfl, rfl⟩, by rw [hv]; rfl, fun h s => ?_⟩
        rw [hv]; exact sl_nil_new (SubC.out h s)
      · try simp only [decide_eq_true_eq, decide_eq_false_iff_not, Bool.not_eq_true', Bool.not_eq_false', Bool.and_eq_true, Bool.or_eq_true, Bool.and_eq_false_iff, Bool.or_eq_false_iff, Option.isNone_some, Option.isSome_some, Option.isNone_none, Option.isSome_none, Int.not_lt, Int.not_le, beq_iff_eq, beq_eq_false_iff_ne, bne_iff_ne, ne_eq, Bool.not_not, Decidable.not_not] at h39
        have hle : rs.length = ss.length := by omega
        refine J.condF rfl rfl ?_
        refine J.skip rfl ?_
        refine J.seq rfl ?_
        refine J.region rfl ?_
        refine JO.pur rfl rfl rfl (Pur.assign rfl) ?_
        refine JO.nil ?_
        refine J.seq rfl ?_
        refine J.seq rfl ?_
        refine J.region rfl ?_
        refine JO.pur rfl rfl rfl (Pur.move rfl) ?_
        refine JO.pur rfl rfl rfl (Pur.loadA rfl rfl rfl CellsIn.blk) ?_
        refine JO.eff rfl rfl rfl (Eff.call rfl (lall (rs := ss) rfl g3)) ?_
        rintro _ _ ⟨a42, c42, hs, rfl, rfl⟩
        refine JO.pur rfl rfl rfl (Pur.len rfl) ?_
        refine JO.pur rfl rfl rfl (Pur.move rfl) ?_
        refine JO.nil ?_
        refine J.block rfl ?_
        refine J.loopF (ι := Nat × Option Addr × Nat) (fun q => q.1 ≤ (ordL (isC lay) ss).length) (fun q => [(11, .slice q.2.1 q.1 q.2.2), (44, .int .i64 (q.1 : Int))]) [(0, _), (2, _), (5, _), (42, _), (43, _)] (fun q => sl intE q.2.1 q.2.2 ((growV (isC lay) rs xs (ordL (isC lay) ss)).take q.1) :: sl hE a42 c42 hs :: rows intE hs (ordL (isC lay) ss) :: blk b5 (.cells #[.slice a rs.length cap] 24) :: L) (fun q => (ordL (isC lay) ss).length - q.1) (0, none, 0) rfl (.cons rfl rfl (.cons rfl rfl (.cons rfl rfl (.cons rfl rfl (.cons rfl rfl .nil))))) (.cons rfl rfl (.cons rfl rfl .nil)) (fun h s => by have s2 := sl_nil_new (E := intE) s; dsimp only; rw [List.take_zero]; exact SubC.out (L := sl intE none 0 [] :: _) h s2) (Nat.zero_le _) ?_
        rintro ⟨k, a0, c0⟩ hk ih0
        try dsimp only
        dsimp only at hk
        have hfl : (growV (isC lay) rs xs (ordL (isC lay) ss)).length = (ordL (isC lay) ss).length := by simp [growV]
        have htl : ((growV (isC lay) rs xs (ordL (isC lay) ss)).take k).length = k := by rw [List.length_take]; omega
        refine J.seq rfl ?_
        refine J.region rfl ?_
        refine JO.pur rfl rfl rfl (Pur.lss rfl rfl) ?_
        refine JO.nil ?_
        refine J.seq rfl ?_
        refine J.splitB 45 rfl (fun h45 => ?_) (fun h45 => ?_)
        · try simp only [decide_eq_true_eq, decide_eq_false_iff_not, Bool.not_eq_true', Bool.not_eq_false', Bool.and_eq_true, Bool.or_eq_true, Bool.and_eq_false_iff, Bool.or_eq_false_iff, Option.isNone_some, Option.isSome_some, Option.isNone_none, Option.isSome_none, Int.not_lt, Int.not_le, beq_iff_eq, beq_eq_false_iff_ne, bne_iff_ne, ne_eq, Bool.not_not, Decidable.not_not] at h45
          have hkl : k < (ordL (isC lay) ss).length := by omega
          obtain ⟨x, hX⟩ : ∃ x, (ordL (isC lay) ss)[k]? = some x := ⟨_, List.getElem?_eq_getElem hkl⟩
          have hxm := List.mem_of_getElem? hX
          have hxl := ord_row hxm
          have hap1 := grow_get (c := isC lay) (rs := rs) (xs := xs) hX
          refine J.fact (fun h s => RowsR.len (E := intE) (hs := hs) (xss := (ordL (isC lay) ss)) s) fun hn0 => ?_
          have hh0 := rows_len hn0
          obtain ⟨hd, hH⟩ : ∃ hd, hs[k]? = some hd := ⟨_, List.getElem?_eq_getElem (by omega)⟩
          refine J.fact (fun h s => RowsR.len (E := intE) (hs := hs) (xss := (ordL (isC lay) ss)) s) fun hnn => ?_
          refine J.fact (fun h s => RowsR.fit (E := intE) (hs := hs) (xss := (ordL (isC lay) ss)) s hH hX) fun hfit => ?_
          have hdn := hdr_n hnn hH hX
          refine J.condT rfl rfl ?_
          refine J.skip rfl ?_
          refine J.seq rfl ?_
          refine J.block rfl ?_
          refine J.seq rfl ?_
          refine J.region rfl ?_
          refine JO.pur rfl rfl rfl (Pur.idx rfl rfl rfl (by first | rfl | (simp; done) | omega) rfl (by omega)) ?_
          refine JO.pur rfl rfl rfl (Pur.load rfl (CellIn.el0 rfl hH rfl)) ?_
          refine JO.setv (u' := .slice hd.a hd.n hd.cap) 47 rfl rfl ?_
          refine JO.pur rfl rfl rfl (Pur.assign rfl) ?_
          refine JO.nil ?_
          refine J.seq rfl ?_
          refine J.region rfl ?_
          refine JO.pur rfl rfl rfl (Pur.assign rfl) ?_
          refine JO.nil ?_
          refine J.seq rfl ?_
          refine J.seq rfl ?_
          refine J.region rfl ?_
          refine JO.pur rfl rfl rfl (Pur.move rfl) ?_
          refine JO.pur rfl rfl rfl (Pur.loadA rfl rfl rfl CellsIn.blk) ?_
          refine JO.pur rfl rfl rfl (Pur.move rfl) ?_
          refine JO.effR rfl rfl rfl (Eff.call rfl (@loffset _ lay _ _ _ _ _ _ rs x inferInstance (RowsR.row (E := intE) inferInstance hH hX) rfl hdn (by omega) hfit.1 g2)) ?_
          refine JO.pur rfl rfl rfl (Pur.move rfl) ?_
          refine JO.pur rfl rfl rfl (Pur.extract rfl rfl) ?_
          refine JO.setv (u' := .int .i64 ((offZ (isC lay) rs x : Nat) : Int)) 53 rfl rfl ?_
          refine JO.pur rfl rfl rfl (Pur.extract rfl rfl) ?_
          refine JO.setv (u' := .bool (offL (isC lay) rs x).isSome) 54 rfl rfl ?_
          refine JO.pur rfl rfl rfl (Pur.assign rfl) ?_
          refine JO.pur rfl rfl rfl (Pur.assign rfl) ?_
          refine JO.nil ?_
          refine J.seq rfl ?_
          refine J.region rfl ?_
          refine JO.pur rfl rfl rfl (Pur.move rfl) ?_
          refine JO.nil ?_
          refine J.splitB 55 rfl (fun h55 => ?_) (fun h55 => ?_)
          · try simp only [decide_eq_true_eq, decide_eq_false_iff_not, Bool.not_eq_true', Bool.not_eq_false', Bool.and_eq_true, Bool.or_eq_true, Bool.and_eq_false_iff, Bool.or_eq_false_iff, Option.isNone_some, Option.isSome_some, Option.isNone_none, Option.isSome_none, Int.not_lt, Int.not_le, beq_iff_eq, beq_eq_false_iff_ne, bne_iff_ne, ne_eq, Bool.not_not, Decidable.not_not] at h55
            obtain ⟨j, hj⟩ := Option.isSome_iff_exists.1 h55
            have hzj : offZ (isC lay) rs x = j := by unfold offZ; rw [hj]; rfl
            have hz2 : offZ (isC lay) rs x < cntD rs := by have := off_lt g2.2.2.1 hj; rw [ord_len2] at this; omega
            have hr : xs.getD (offZ (isC lay) rs x) 0 = rsz1 xs (offL (isC lay) rs x) := by rw [hj, hzj]; rfl
            refine J.condT rfl rfl ?_
            refine J.region rfl ?_
            refine JO.pur rfl rfl rfl (Pur.move rfl) ?_
            refine JO.pur rfl rfl rfl (Pur.move rfl) ?_
            refine JO.pur rfl rfl rfl (Pur.idx rfl rfl rfl (by first | rfl | (simp; done) | omega) rfl (by omega)) ?_
            refine JO.pur rfl rfl rfl (Pur.load rfl (CellIn.el0 rfl (getD_at 0 (by omega)) rfl)) ?_
            refine JO.pur rfl rfl rfl (Pur.assign rfl) ?_
            refine JO.nil ?_
            refine J.region rfl ?_
            refine JO.pur rfl rfl rfl (Pur.move rfl) ?_
            refine JO.pur rfl rfl rfl (Pur.move rfl) ?_
            refine JO.setv (u' := .int .i64 (rsz1 xs (offL (isC lay) rs x))) 61 rfl (congrArg (Value.int .i64) hr) ?_
            refine JO.eff rfl rfl rfl (Eff.buildSlice intE [rsz1 xs (offL (isC lay) rs x)] rfl rfl rfl rfl rfl rfl rfl) ?_
            rintro _ _ ⟨b62, rfl, -, rfl⟩
            refine JO.eff rfl rfl rfl (Eff.append rfl rfl rfl rfl (by first | rfl | omega | (simp; done) | (simp; omega)) (by first | rfl | omega | (simp; done) | (simp; omega)) (by decide) (by simp; omega) (by simp; omega) (fun h => by cases h)) ?_
            rintro _ _ ⟨a63, c63, rfl, rfl⟩
            refine JO.pur rfl rfl rfl (Pur.assign rfl) ?_
            refine JO.nil ?_
            refine J.inBlock ?_
            refine J.region rfl ?_
            refine JO.pur rfl rfl rfl (Pur.add rfl rfl (wr64 (by omega))) ?_
            refine JO.pur rfl rfl rfl (Pur.move rfl) ?_
            refine JO.nil ?_
            exact J.weaken (.cons rfl (by show Value.slice a63 _ c63 = Value.slice a63 (k + 1) c63; rw [htl]; rfl) (.cons rfl (congrArg (Value.int .i64) (by first | rfl | (dsimp only; omega))) (.cons rfl rfl (.cons rfl rfl (.cons rfl rfl (.cons rfl rfl (.cons rfl rfl .nil))))))) (fun h s => by rw [← hap1] at s; exact SubC.out h s) (ih0 (k + 1, a63, c63) (by dsimp only; omega) (by dsimp only; omega))
          · try simp only [decide_eq_true_eq, decide_eq_false_iff_not, Bool.not_eq_true', Bool.not_eq_false', Bool.and_eq_true, Bool.or_eq_true, Bool.and_eq_false_iff, Bool.or_eq_false_iff, Option.isNone_some, Option.isSome_some, Option.isNone_none, Option.isSome_none, Int.not_lt, Int.not_le, beq_iff_eq, beq_eq_false_iff_ne, bne_iff_ne, ne_eq, Bool.not_not, Decidable.not_not] at h55
            have hr : (0 : Int) = rsz1 xs (offL (isC lay) rs x) := by cases e : offL (isC lay) rs x with | none => rfl | some j => rw [e] at h55; simp at h55
            refine J.condF rfl rfl ?_
            refine J.skip rfl ?_
            refine J.region rfl ?_
            refine JO.pur rfl rfl rfl (Pur.move rfl) ?_
            refine JO.pur rfl rfl rfl (Pur.move rfl) ?_
            refine JO.setv (u' := .int .i64 (rsz1 xs (offL (isC lay) rs x))) 61 rfl (congrArg (Value.int .i64) hr) ?_
            refine JO.eff rfl rfl rfl (Eff.buildSlice intE [rsz1 xs (offL (isC lay) rs x)] rfl rfl rfl rfl rfl rfl rfl) ?_
            rintro _ _ ⟨b62, rfl, -, rfl⟩
            refine JO.eff rfl rfl rfl (Eff.append rfl rfl rfl rfl (by first | rfl | omega | (simp; done) | (simp; omega)) (by first | rfl | omega | (simp; done) | (simp; omega)) (by decide) (by simp; omega) (by simp; omega) (fun h => by cases h)) ?_
            rintro _ _ ⟨a63, c63, rfl, rfl⟩
            refine JO.pur rfl rfl rfl (Pur.assign rfl) ?_
            refine JO.nil ?_
            refine J.inBlock ?_
            refine J.region rfl ?_
            refine JO.pur rfl rfl rfl (Pur.add rfl rfl (wr64 (by omega))) ?_
            refine JO.pur rfl rfl rfl (Pur.move rfl) ?_
            refine JO.nil ?_
            exact J.weaken (.cons rfl (by show Value.slice a63 _ c63 = Value.slice a63 (k + 1) c63; rw [htl]; rfl) (.cons rfl (congrArg (Value.int .i64) (by first | rfl | (dsimp only; omega))) (.cons rfl rfl (.cons rfl rfl (.cons rfl rfl (.cons rfl rfl (.cons rfl rfl .nil))))))) (fun h s => by rw [← hap1] at s; exact SubC.out h s) (ih0 (k + 1, a63, c63) (by dsimp only; omega) (by dsimp only; omega))
        · try simp only [decide_eq_true_eq, decide_eq_false_iff_not, Bool.not_eq_true', Bool.not_eq_false', Bool.and_eq_true, Bool.or_eq_true, Bool.and_eq_false_iff, Bool.or_eq_false_iff, Option.isNone_some, Option.isSome_some, Option.isNone_none, Option.isSome_none, Int.not_lt, Int.not_le, beq_iff_eq, beq_eq_false_iff_ne, bne_iff_ne, ne_eq, Bool.not_not, Decidable.not_not] at h45
          have hke : k = (growV (isC lay) rs xs (ordL (isC lay) ss)).length := by omega
          refine J.condF rfl rfl ?_
          refine J.exit rfl rfl ?_
          refine J.seq rfl ?_
          refine J.region rfl ?_
          refine JO.pur rfl rfl rfl (Pur.move rfl) ?_
          refine JO.pur rfl rfl rfl (Pur.assign rfl) ?_
          refine JO.pur rfl rfl rfl (Pur.assign rfl) ?_
          refine JO.nil ?_
          refine J.ret rfl rfl ?_
          have hv : rszV lay rs xs ss = ((growV (isC lay) rs xs (ordL (isC lay) ss)), 0) := by unfold rszV; rw [if_neg (not_not_intro h24'), if_neg (by rintro (e | e); exact e hlen; exact e hle)]
          refine ⟨_, _, ⟨a0, c0, rfl, rfl⟩, by rw [hv, hke]; rfl, fun h s => ?_⟩
          rw [hke, List.take_length] at s
          rw [hv]
          exact SubC.out h s

def mixZ (l : List Int) (k : Nat) : List Int := l.take k ++ List.replicate (l.length - k) 0
theorem mix_zero (l : List Int) : mixZ l 0 = List.replicate l.length 0 := by simp [mixZ]
theorem mix_all (l : List Int) : mixZ l l.length = l := by simp [mixZ]
theorem mix_len {l : List Int} {k : Nat} (h : k ≤ l.length) : (mixZ l k).length = l.length := by simp [mixZ]; omega
theorem mix_set {l : List Int} {k : Nat} {v : Int} (h : l[k]? = some v) : (mixZ l k).set k v = mixZ l (k + 1) := by
  have hk := (List.getElem?_eq_some_iff.1 h).1
  unfold mixZ
  rw [List.set_append_right _ _ (by simp; omega), take_get h, List.append_assoc]
  congr 1
  rw [show k - (l.take k).length = 0 by simp; omega, show l.length - k = (l.length - (k + 1)) + 1 by omega, List.replicate_succ, List.set_cons_zero]; rfl
theorem mix_get {l : List Int} {k : Nat} (h : k < l.length) : (mixZ l k)[k]? = some 0 := by
  unfold mixZ
  rw [List.getElem?_append_right (by simp; omega), List.getElem?_replicate, if_pos (by simp; omega)]
theorem mix_same {l : List Int} {k : Nat} (h : l[k]? = some 0) : mixZ l k = mixZ l (k + 1) := by
  have hk := (List.getElem?_eq_some_iff.1 h).1
  rw [← mix_set h]
  apply List.ext_getElem?
  intro j
  rw [List.getElem?_set]
  split
  · rename_i e; subst e; rw [if_pos (by rw [mix_len (by omega)]; omega), mix_get hk]
  · rfl
theorem rResize {L : List Asn} {lay : ByteArray} {a b d : Option Addr} {n cap m cq vn vc : Nat} {rs ss : List Rg} {xs : List Int} [SlIn rgE L a rs] [SlIn rgE L b ss] [SlIn intE L d xs] (hn : n = rs.length) (hm : m = ss.length) (hv : vn = xs.length) :
    CallS Try.prog 68 [.string lay, .agg #[.slice a n cap], .slice d vn vc, .agg #[.slice b m cq]].toArray L (fun v M => ∃ a' c', v = .tuple #[.slice a' (rszV lay rs xs ss).1.length c', .int .i64 (rszV lay rs xs ss).2] ∧ M = sl intE a' c' (rszV lay rs xs ss).1 :: L) := by
  subst hn
  subst hm
  subst hv
  refine CallS.ent ?_
  refine CallS.enter Try.func68 rfl rfl rfl rfl rfl ?_
  refine J.seq rfl ?_
  refine J.region rfl ?_
  refine JO.eff rfl rfl rfl (Eff.box (cs := [_]) rfl rfl) ?_
  rintro _ _ ⟨b5, rfl, rfl⟩
  refine JO.eff rfl rfl rfl (Eff.box (cs := [_]) rfl rfl) ?_
  rintro _ _ ⟨b7, rfl, rfl⟩
  refine JO.pur rfl rfl rfl (Pur.assign rfl) ?_
  refine JO.pur rfl rfl rfl (Pur.assign rfl) ?_
  refine JO.nil ?_
  refine J.seq rfl ?_
  refine J.seq rfl ?_
  refine J.region rfl ?_
  refine JO.pur rfl rfl rfl (Pur.move rfl) ?_
  refine JO.pur rfl rfl rfl (Pur.move rfl) ?_
  refine JO.pur rfl rfl rfl (Pur.loadA rfl rfl rfl CellsIn.blk) ?_
  refine JO.pur rfl rfl rfl (Pur.loadA rfl rfl rfl CellsIn.blk) ?_
  refine JO.effR rfl rfl rfl (Eff.call rfl (rAsked (lay := lay) (lay2 := lay) (rs := rs) (ss := ss) rfl rfl)) ?_
  refine JO.pur rfl rfl rfl (Pur.assign rfl) ?_
  refine JO.nil ?_
  refine J.seq rfl ?_
  refine J.region rfl ?_
  refine JO.pur rfl rfl rfl (Pur.move rfl) ?_
  refine JO.pur rfl rfl rfl (Pur.neqI rfl rfl) ?_
  refine JO.nil ?_
  refine J.splitB 22 rfl (fun h22 => ?_) (fun h22 => ?_)
  · try simp only [decide_eq_true_eq, decide_eq_false_iff_not, Bool.not_eq_true', Bool.not_eq_false', Bool.and_eq_true, Bool.or_eq_true, Bool.and_eq_false_iff, Bool.or_eq_false_iff, Option.isNone_some, Option.isSome_some, Option.isNone_none, Option.isSome_none, Int.not_lt, Int.not_le, beq_iff_eq, beq_eq_false_iff_ne, bne_iff_ne, ne_eq, Bool.not_not, Decidable.not_not] at h22
    have h22' : rAskV lay lay rs ss ≠ 0 := h22
    refine J.condT rfl rfl ?_
    refine J.seq rfl ?_
    refine J.region rfl ?_
    refine JO.pur rfl rfl rfl (Pur.move rfl) ?_
    refine JO.pur rfl rfl rfl (Pur.assign rfl) ?_
    refine JO.pur rfl rfl rfl (Pur.assign rfl) ?_
    refine JO.nil ?_
    refine J.ret rfl rfl ?_
    have hv : rszV lay rs xs ss = ([], rAskV lay lay rs ss) := by
      unfold rszV
      by_cases e : ask2 lay rs ss = 0
      · rw [if_neg (not_not_intro e)]; rw [rAsk2_in e] at h22' ⊢
        by_cases e2 : rs.length = ss.length
        · simp [e2] at h22'
        · rw [if_pos (.inr e2), if_pos e2]
      · rw [if_pos e, rAsk2 e]
    refine ⟨_, _, ⟨none, 0, rfl, rfl⟩, by rw [hv]; rfl, fun h s => ?_⟩
    rw [hv]; exact sl_nil_new (SubC.out h s)
  · try simp only [decide_eq_true_eq, decide_eq_false_iff_not, Bool.not_eq_true', Bool.not_eq_false', Bool.and_eq_true, Bool.or_eq_true, Bool.and_eq_false_iff, Bool.or_eq_false_iff, Option.isNone_some, Option.isSome_some, Option.isNone_none, Option.isSome_none, Int.not_lt, Int.not_le, beq_iff_eq, beq_eq_false_iff_ne, bne_iff_ne, ne_eq, Bool.not_not, Decidable.not_not] at h22
    have h22' : rAskV lay lay rs ss = 0 := by simpa using h22
    obtain ⟨g1, g2, g3, hle⟩ := ask_wth h22'
    have h24' : ask2 lay rs ss = 0 := by unfold ask2; rw [if_neg (not_not_intro g1), if_neg (not_not_intro ⟨g2, g3⟩)]
    have hc4 := g2.2.2.2
    have hc5 := g3.2.2.2
    have hl3 := g2.2.1
    have hl4 := g3.2.1
    have hol := ord_len2 (isC lay) ss
    have hol1 := ord_len2 (isC lay) rs
    have hzl : (growV (isC lay) rs xs (ordL (isC lay) ss)).length = (ordL (isC lay) ss).length := by simp [growV]
    refine J.condF rfl rfl ?_
    refine J.skip rfl ?_
    refine J.seq rfl ?_
    refine J.mask0 (n := 8) [] rfl Try.mixed rfl (by kernel_rfl) ?_
    refine JM.take 0 (fun _ h => h) rfl (by kernel_rfl) rfl rfl rfl (m' := 1) rfl (Pur.move rfl) ?_
    refine JM.take 1 (fun _ h => h) rfl (by kernel_rfl) rfl rfl rfl (m' := 3) rfl (Pur.loadA rfl rfl rfl CellsIn.blk) ?_
    refine JM.take 3 (fun _ h => h) rfl (by kernel_rfl) rfl rfl rfl (m' := 11) rfl (Pur.move rfl) ?_
    refine JM.take 4 (fun _ h => h) rfl (by kernel_rfl) rfl rfl rfl (m' := 27) rfl (Pur.loadA rfl rfl rfl CellsIn.blk) ?_
    refine JM.one (i := 2) (by kernel_rfl) ?_
    refine JMi.eff rfl rfl rfl rfl (m' := 31) rfl (Eff.call rfl (rorder (rs := rs) rfl g2 g1)) ?_
    rintro _ _ ⟨a26, c26, hs, rfl, rfl⟩
    refine ⟨.inr (fun _ h => h.tail.tail), ?_⟩
    refine JM.one (i := 5) (by kernel_rfl) ?_
    refine JMi.eff rfl rfl rfl rfl (m' := 63) rfl (Eff.call rfl (rorder (rs := ss) rfl g3 g1)) ?_
    rintro _ _ ⟨a29, c29, hs2, rfl, rfl⟩
    refine ⟨.inr (fun _ h => h.tail.tail.tail.tail), ?_⟩
    refine JM.take 6 (fun _ h => h.tail.tail.tail.tail) rfl (by kernel_rfl) rfl rfl rfl (m' := 127) rfl (Pur.assign rfl) ?_
    refine JM.take 7 (fun _ h => h.tail.tail.tail.tail) rfl (by kernel_rfl) rfl rfl rfl (m' := 255) rfl (Pur.assign rfl) ?_
    refine JM.done rfl ?_
    refine J.seq rfl ?_
    refine J.seq rfl ?_
    refine J.region rfl ?_
    refine JO.pur rfl rfl rfl (Pur.move rfl) ?_
    refine JO.pur rfl rfl rfl (Pur.len rfl) ?_
    refine JO.pur rfl rfl rfl (Pur.move rfl) ?_
    refine JO.pur rfl rfl rfl (Pur.len rfl) ?_
    refine JO.pur rfl rfl rfl (Pur.neqI rfl rfl) ?_
    refine JO.nil ?_
    refine J.splitB 34 rfl (fun h34 => ?_) (fun h34 => ?_)
    · try simp only [decide_eq_true_eq, decide_eq_false_iff_not, Bool.not_eq_true', Bool.not_eq_false', Bool.and_eq_true, Bool.or_eq_true, Bool.and_eq_false_iff, Bool.or_eq_false_iff, Option.isNone_some, Option.isSome_some, Option.isNone_none, Option.isSome_none, Int.not_lt, Int.not_le, beq_iff_eq, beq_eq_false_iff_ne, bne_iff_ne, ne_eq, Bool.not_not, Decidable.not_not] at h34
      have hlen : xs.length ≠ cntD rs := by omega
      refine J.condT rfl rfl ?_
      refine J.seq rfl ?_
      refine J.region rfl ?_
      refine JO.pur rfl rfl rfl (Pur.assign rfl) ?_
      refine JO.pur rfl rfl rfl (Pur.assign rfl) ?_
      refine JO.nil ?_
      refine J.ret rfl rfl ?_
      have hv : rszV lay rs xs ss = ([], 2) := by unfold rszV; rw [if_neg (not_not_intro h24'), if_pos (.inl hlen)]
      refine ⟨_, _, ⟨none, 0, rfl, rfl⟩, by rw [hv]; rfl, fun h s => ?_⟩
      rw [hv]; exact sl_nil_new (SubC.out h s)
    · try simp only [decide_eq_true_eq, decide_eq_false_iff_not, Bool.not_eq_true', Bool.not_eq_false', Bool.and_eq_true, Bool.or_eq_true, Bool.and_eq_false_iff, Bool.or_eq_false_iff, Option.isNone_some, Option.isSome_some, Option.isNone_none, Option.isSome_none, Int.not_lt, Int.not_le, beq_iff_eq, beq_eq_false_iff_ne, bne_iff_ne, ne_eq, Bool.not_not, Decidable.not_not] at h34
      have hlen : xs.length = cntD rs := by omega
      refine J.condF rfl rfl ?_
      refine J.skip rfl ?_
      refine J.seq rfl ?_
      refine J.fact (fun h s => RowsR.len (E := intE) (hs := hs) (xss := (ordL (isC lay) rs)) s) fun hn0 => ?_
      have hh0 := rows_len hn0
      refine J.fact (fun h s => RowsR.len (E := intE) (hs := hs2) (xss := (ordL (isC lay) ss)) s) fun hn2 => ?_
      have hh2 := rows_len hn2
      have hrw2 : ∀ y ∈ (ordL (isC lay) rs), y.length ≤ 1000000 := fun y hy => by have := ord_row hy; omega
      refine J.region rfl ?_
      refine JO.pur rfl rfl rfl (Pur.move rfl) ?_
      refine JO.pur rfl rfl rfl (Pur.len rfl) ?_
      refine JO.eff rfl rfl rfl (Eff.make intE 0 rfl rfl rfl rfl rfl (by decide) (by omega) (by omega)) ?_
      rintro _ _ ⟨b37, rfl, rfl⟩
      refine JO.pur rfl rfl rfl (Pur.assign rfl) ?_
      refine JO.nil ?_
      refine J.seq rfl ?_
      refine J.seq rfl ?_
      refine J.region rfl ?_
      refine JO.pur rfl rfl rfl (Pur.assign rfl) ?_
      refine JO.nil ?_
      refine J.block rfl ?_
      refine J.loopF (ι := Nat) (fun q => q ≤ (ordL (isC lay) ss).length) (fun q => [(14, .int .i64 (q : Int))]) [(2, _), (11, _), (12, _), (13, _)] (fun q => sl intE (some ⟨b37, 0, none⟩) (ordL (isC lay) ss).length (mixZ (growV (isC lay) rs xs (ordL (isC lay) ss)) q) :: sl hE a26 c26 hs :: rows intE hs (ordL (isC lay) rs) :: sl hE a29 c29 hs2 :: rows intE hs2 (ordL (isC lay) ss) :: L) (fun q => (ordL (isC lay) ss).length - q) 0 rfl (.cons rfl rfl (.cons rfl rfl (.cons rfl rfl (.cons rfl rfl .nil)))) (.cons rfl rfl .nil) (fun h s => by rw [mix_zero, hzl]; exact SubC.out h s) (Nat.zero_le _) ?_
      rintro k hk ihk
      try dsimp only
      refine J.seq rfl ?_
      refine J.seq rfl ?_
      refine J.region rfl ?_
      refine JO.pur rfl rfl rfl (Pur.move rfl) ?_
      refine JO.pur rfl rfl rfl (Pur.move rfl) ?_
      refine JO.pur rfl rfl rfl (Pur.len rfl) ?_
      refine JO.pur rfl rfl rfl (Pur.lss rfl rfl) ?_
      refine JO.nil ?_
      refine J.splitB 41 rfl (fun h41 => ?_) (fun h41 => ?_)
      · try simp only [decide_eq_true_eq, decide_eq_false_iff_not, Bool.not_eq_true', Bool.not_eq_false', Bool.and_eq_true, Bool.or_eq_true, Bool.and_eq_false_iff, Bool.or_eq_false_iff, Option.isNone_some, Option.isSome_some, Option.isNone_none, Option.isSome_none, Int.not_lt, Int.not_le, beq_iff_eq, beq_eq_false_iff_ne, bne_iff_ne, ne_eq, Bool.not_not, Decidable.not_not] at h41
        have hkl : k < (ordL (isC lay) ss).length := by omega
        obtain ⟨x, hX⟩ : ∃ x, (ordL (isC lay) ss)[k]? = some x := ⟨_, List.getElem?_eq_getElem hkl⟩
        have hxm := List.mem_of_getElem? hX
        have hxl := ord_row hxm
        have hzg : (growV (isC lay) rs xs (ordL (isC lay) ss))[k]? = some (rsz1 xs (offL (isC lay) rs x)) := by unfold growV; rw [List.getElem?_map, hX]; rfl
        obtain ⟨hd, hH⟩ : ∃ hd, hs2[k]? = some hd := ⟨_, List.getElem?_eq_getElem (by omega)⟩
        have hdn := hdr_n hn2 hH hX
        have hfo := findL_off (c := isC lay) g2.2.2.1 x
        have hml := mix_len (l := (growV (isC lay) rs xs (ordL (isC lay) ss))) (k := k) (by omega)
        refine J.condT rfl rfl ?_
        refine J.skip rfl ?_
        refine J.seq rfl ?_
        refine J.block rfl ?_
        refine J.seq rfl ?_
        refine J.region rfl ?_
        refine JO.pur rfl rfl rfl (Pur.move rfl) ?_
        refine JO.pur rfl rfl rfl (Pur.move rfl) ?_
        refine JO.pur rfl rfl rfl (Pur.move rfl) ?_
        refine JO.pur rfl rfl rfl (Pur.idx rfl rfl rfl (by first | rfl | (simp; done) | omega) rfl (by omega)) ?_
        refine JO.pur rfl rfl rfl (Pur.load rfl (CellIn.el0 rfl hH rfl)) ?_
        refine JO.setv (u' := .slice hd.a hd.n hd.cap) 48 rfl rfl ?_
        refine JO.effR rfl rfl rfl (Eff.call rfl (@rfind _ _ _ _ _ _ _ hs (ordL (isC lay) rs) x inferInstance (by infer_instance) (RowsR.row (E := intE) inferInstance hH hX) (by omega) hdn hrw2 (by omega))) ?_
        refine JO.pur rfl rfl rfl (Pur.assign rfl) ?_
        refine JO.nil ?_
        refine J.seq rfl ?_
        refine J.region rfl ?_
        refine JO.pur rfl rfl rfl (Pur.move rfl) ?_
        refine JO.pur rfl rfl rfl (Pur.geq rfl rfl) ?_
        refine JO.nil ?_
        refine J.splitB 51 rfl (fun h51 => ?_) (fun h51 => ?_)
        · try simp only [decide_eq_true_eq, decide_eq_false_iff_not, Bool.not_eq_true', Bool.not_eq_false', Bool.and_eq_true, Bool.or_eq_true, Bool.and_eq_false_iff, Bool.or_eq_false_iff, Option.isNone_some, Option.isSome_some, Option.isNone_none, Option.isSome_none, Int.not_lt, Int.not_le, beq_iff_eq, beq_eq_false_iff_ne, bne_iff_ne, ne_eq, Bool.not_not, Decidable.not_not] at h51
          obtain ⟨j, hj⟩ : ∃ j, offL (isC lay) rs x = some j := by
            cases e : offL (isC lay) rs x with
            | none => rw [hfo, e] at h51; exact absurd h51 (by decide)
            | some j => exact ⟨j, rfl⟩
          rw [hj] at hfo hzg
          have hz2 : j < cntD rs := by have := off_lt g2.2.2.1 hj; rw [ord_len2] at this; omega
          have hst := mix_set hzg
          refine J.condT rfl rfl ?_
          refine J.region rfl ?_
          refine JO.pur rfl rfl rfl (Pur.move rfl) ?_
          refine JO.pur rfl rfl rfl (Pur.move rfl) ?_
          refine JO.pur rfl rfl rfl (Pur.move rfl) ?_
          refine JO.pur rfl rfl rfl (Pur.move rfl) ?_
          refine JO.pur rfl rfl rfl (Pur.idx rfl rfl rfl (by first | rfl | (simp; done) | omega) hfo (by omega)) ?_
          refine JO.pur rfl rfl rfl (Pur.load rfl (CellIn.el0 rfl (getD_at 0 (by omega)) rfl)) ?_
          refine JO.pur rfl rfl rfl (Pur.idx rfl rfl rfl (by first | rfl | (simp; done) | omega) rfl (by omega)) ?_
          refine JO.effN rfl rfl (Eff.storeS0 (z' := (rsz1 xs (some j))) rfl rfl rfl rfl (List.getElem?_eq_getElem (by omega)) .head) ?_
          rintro _ _ ⟨rfl, rfl⟩
          refine JO.nil ?_
          refine J.inBlock ?_
          refine J.region rfl ?_
          refine JO.pur rfl rfl rfl (Pur.move rfl) ?_
          refine JO.pur rfl rfl rfl (Pur.add rfl rfl (wr64 (by omega))) ?_
          refine JO.pur rfl rfl rfl (Pur.assign rfl) ?_
          refine JO.nil ?_
          exact J.weaken (.cons rfl (congrArg (Value.int .i64) (by first | rfl | (dsimp only; omega))) (.cons rfl rfl (.cons rfl rfl (.cons rfl rfl (.cons rfl rfl .nil))))) (fun h s => by rw [hst] at s; exact SubC.out h s) (ihk (k + 1) (by omega) (by omega))
        · try simp only [decide_eq_true_eq, decide_eq_false_iff_not, Bool.not_eq_true', Bool.not_eq_false', Bool.and_eq_true, Bool.or_eq_true, Bool.and_eq_false_iff, Bool.or_eq_false_iff, Option.isNone_some, Option.isSome_some, Option.isNone_none, Option.isSome_none, Int.not_lt, Int.not_le, beq_iff_eq, beq_eq_false_iff_ne, bne_iff_ne, ne_eq, Bool.not_not, Decidable.not_not] at h51
          have hst := mix_same (l := (growV (isC lay) rs xs (ordL (isC lay) ss))) (k := k) (by
            rw [hzg]
            cases e : offL (isC lay) rs x with
            | none => rfl
            | some j => rw [hfo, e] at h51; exact absurd (Int.natCast_nonneg j) (Int.not_le.2 h51))
          refine J.condF rfl rfl ?_
          refine J.skip rfl ?_
          refine J.inBlock ?_
          refine J.region rfl ?_
          refine JO.pur rfl rfl rfl (Pur.move rfl) ?_
          refine JO.pur rfl rfl rfl (Pur.add rfl rfl (wr64 (by omega))) ?_
          refine JO.pur rfl rfl rfl (Pur.assign rfl) ?_
          refine JO.nil ?_
          exact J.weaken (.cons rfl (congrArg (Value.int .i64) (by first | rfl | (dsimp only; omega))) (.cons rfl rfl (.cons rfl rfl (.cons rfl rfl (.cons rfl rfl .nil))))) (fun h s => by rw [← hst]; exact SubC.out h s) (ihk (k + 1) (by omega) (by omega))
      · try simp only [decide_eq_true_eq, decide_eq_false_iff_not, Bool.not_eq_true', Bool.not_eq_false', Bool.and_eq_true, Bool.or_eq_true, Bool.and_eq_false_iff, Bool.or_eq_false_iff, Option.isNone_some, Option.isSome_some, Option.isNone_none, Option.isSome_none, Int.not_lt, Int.not_le, beq_iff_eq, beq_eq_false_iff_ne, bne_iff_ne, ne_eq, Bool.not_not, Decidable.not_not] at h41
        have hke : k = (growV (isC lay) rs xs (ordL (isC lay) ss)).length := by omega
        refine J.condF rfl rfl ?_
        refine J.exit rfl rfl ?_
        refine J.seq rfl ?_
        refine J.region rfl ?_
        refine JO.pur rfl rfl rfl (Pur.move rfl) ?_
        refine JO.pur rfl rfl rfl (Pur.assign rfl) ?_
        refine JO.pur rfl rfl rfl (Pur.assign rfl) ?_
        refine JO.nil ?_
        refine J.ret rfl rfl ?_
        have hv : rszV lay rs xs ss = ((growV (isC lay) rs xs (ordL (isC lay) ss)), 0) := by unfold rszV; rw [if_neg (not_not_intro h24'), if_neg (by rintro (e | e); exact e hlen; exact e hle)]
        refine ⟨_, _, ⟨_, _, rfl, rfl⟩, by rw [hv]; dsimp only; rw [hzl]; rfl, fun h s => ?_⟩
        rw [hke, mix_all] at s
        rw [hv]
        exact SubC.out h s

end Go.Proofs.Ytnhippfllgnngaa
