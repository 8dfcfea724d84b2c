/-
  A part of the proof of the claim that this folder bears.
-/
import Derived.Test.YtnhippfllgnngaaPAQ
/- The text SE5. -/
set_option linter.unusedVariables false
set_option linter.unusedSimpArgs false
set_option maxRecDepth 10000
namespace Go.Proofs.Ytnhippfllgnngaa
open Go Go.KK Dm

def ask21 (lay lay2 : ByteArray) (rs : List Rg) : Int := if ¬ (okL lay ∧ okL lay2) then 60 else if ¬ okD rs then 40 else 0
theorem ask21_ok {lay lay2 : ByteArray} {rs : List Rg} (h : ask21 lay lay2 rs = 0) : okL lay ∧ okL lay2 ∧ okD rs := by
  unfold ask21 at h
  by_cases h1 : okL lay ∧ okL lay2
  · by_cases h2 : okD rs
    · exact ⟨h1.1, h1.2, h2⟩
    · simp [h1, h2] at h
  · rw [if_pos h1] at h; cases h
theorem rAsk21 (lay lay2 : ByteArray) (rs : List Rg) : rAskV lay lay2 rs rs = ask21 lay lay2 rs := by simp [rAskV, ask21]
/-- The array read in another order. -/
def pickV (c : Bool) (rs : List Rg) (xs : List Int) (l : List (List Int)) : List Int := l.map fun x => xs.getD (offZ c rs x) 0
def trnV (lay lay2 : ByteArray) (rs : List Rg) (xs : List Int) : List Int × Int := if ask21 lay lay2 rs ≠ 0 then ([], ask21 lay lay2 rs) else if xs.length ≠ cntD rs then ([], 2) else (pickV (isC lay) rs xs (ordL (isC lay2) rs), 0)
theorem off_z {c : Bool} {rs : List Rg} (h : okRs rs) {x : List Int} (hx : x ∈ idx rs) : offL c rs x = some (offZ c rs x) ∧ offZ c rs x < cntD rs := by
  obtain ⟨n, hn⟩ := off_of_mem (c := c) h hx
  have : offZ c rs x = n := by unfold offZ; rw [hn]; rfl
  rw [this]; exact ⟨hn, by have := off_lt h hn; rwa [ord_len2] at this⟩
theorem pick_get {c : Bool} {rs : List Rg} {xs : List Int} {l : List (List Int)} {k : Nat} {x : List Int} (hX : l[k]? = some x) : (pickV c rs xs l).take (k + 1) = (pickV c rs xs l).take k ++ [xs.getD (offZ c rs x) 0] :=
  take_get (by unfold pickV; rw [List.getElem?_map, hX]; rfl)
theorem getD_at {α : Type} {l : List α} {k : Nat} (d : α) (h : k < l.length) : l[k]? = some (l.getD k d) := by
  rw [List.getD_eq_getElem?_getD, List.getElem?_eq_getElem h]; rfl
theorem lTurn {L : List Asn} {lay lay2 : ByteArray} {a d : Option Addr} {n cap vn vc : Nat} {rs : List Rg} {xs : List Int} [SlIn rgE L a rs] [SlIn intE L d xs] (hn : n = rs.length) (hv : vn = xs.length) :
    CallS Try.prog 64 [.string lay, .string lay2, .agg #[.slice a n cap], .slice d vn vc].toArray L (fun v M => ∃ a' c', v = .tuple #[.slice a' (trnV lay lay2 rs xs).1.length c', .int .i64 (trnV lay lay2 rs xs).2] ∧ M = sl intE a' c' (trnV lay lay2 rs xs).1 :: L) := by
  subst hn
  subst hv
  refine CallS.ent ?_
  refine CallS.enter Try.func64 rfl rfl rfl rfl rfl ?_
  refine J.seq rfl ?_
  refine J.region rfl ?_
  refine JO.eff rfl rfl rfl (Eff.box (cs := [_]) rfl rfl) ?_
  rintro _ _ ⟨b6, rfl, rfl⟩
  refine JO.pur rfl rfl rfl (Pur.assign rfl) ?_
  refine JO.pur rfl rfl rfl (Pur.assign rfl) ?_
  refine JO.nil ?_
  refine J.seq rfl ?_
  refine J.seq rfl ?_
  refine J.region rfl ?_
  refine JO.pur rfl rfl rfl (Pur.move rfl) ?_
  refine JO.pur rfl rfl rfl (Pur.move rfl) ?_
  refine JO.eff rfl rfl rfl (Eff.buildSlice stE [lay, lay2] rfl rfl rfl rfl rfl rfl rfl) ?_
  rintro _ _ ⟨b18, rfl, -, rfl⟩
  refine JO.pur rfl rfl rfl (Pur.loadA rfl rfl rfl CellsIn.blk) ?_
  refine JO.eff rfl rfl rfl (Eff.buildSlice domE [⟨a, rs.length, cap⟩] rfl rfl rfl rfl rfl rfl rfl) ?_
  rintro _ _ ⟨b20, rfl, -, rfl⟩
  refine JO.effR rfl rfl rfl (Eff.call rfl (lAsked (ss := [lay, lay2]) (hds := [⟨a, rs.length, cap⟩]) (ds := [rs]) rfl rfl rfl (by simp) (by simp) (hsl1 rfl))) ?_
  rw [ask21_eq, show (if ¬ (okL lay ∧ okL lay2) then (60 : Int) else if ¬ okD rs then 40 else 0) = ask21 lay lay2 rs from rfl]
  refine JO.pur rfl rfl rfl (Pur.assign rfl) ?_
  refine JO.nil ?_
  refine J.seq rfl ?_
  refine J.region rfl ?_
  refine JO.pur rfl rfl rfl (Pur.move rfl) ?_
  refine JO.pur rfl rfl rfl (Pur.neqI rfl rfl) ?_
  refine JO.nil ?_
  refine J.splitB 23 rfl (fun h23 => ?_) (fun h23 => ?_)
  · try simp only [decide_eq_true_eq, decide_eq_false_iff_not, Bool.not_eq_true', Bool.not_eq_false', Bool.and_eq_true, Bool.or_eq_true, Bool.and_eq_false_iff, Bool.or_eq_false_iff, Option.isNone_some, Option.isSome_some, Option.isNone_none, Option.isSome_none, Int.not_lt, Int.not_le, beq_iff_eq, beq_eq_false_iff_ne, bne_iff_ne, ne_eq, Bool.not_not, Decidable.not_not] at h23
    have h23' : ask21 lay lay2 rs ≠ 0 := h23
    refine J.condT rfl rfl ?_
    refine J.seq rfl ?_
    refine J.region rfl ?_
    refine JO.pur rfl rfl rfl (Pur.move rfl) ?_
    refine JO.pur rfl rfl rfl (Pur.assign rfl) ?_
    refine JO.pur rfl rfl rfl (Pur.assign rfl) ?_
    refine JO.nil ?_
    refine J.ret rfl rfl ?_
    have hv : trnV lay lay2 rs xs = ([], ask21 lay lay2 rs) := by unfold trnV; rw [if_pos h23']
    refine ⟨_, _, ⟨none, 0, rfl, rfl⟩, by rw [hv]; rfl, fun h s => ?_⟩
    rw [hv]; exact sl_nil_new (SubC.out h s)
  · try simp only [decide_eq_true_eq, decide_eq_false_iff_not, Bool.not_eq_true', Bool.not_eq_false', Bool.and_eq_true, Bool.or_eq_true, Bool.and_eq_false_iff, Bool.or_eq_false_iff, Option.isNone_some, Option.isSome_some, Option.isNone_none, Option.isSome_none, Int.not_lt, Int.not_le, beq_iff_eq, beq_eq_false_iff_ne, bne_iff_ne, ne_eq, Bool.not_not, Decidable.not_not] at h23
    have h23' : ask21 lay lay2 rs = 0 := by simpa using h23
    obtain ⟨g0, g1, g2⟩ := ask21_ok h23'
    have hct : ctV rs = (cntD rs : Int) := by unfold ctV; rw [if_pos g2]
    have hc4 := g2.2.2.2
    have hl3 := g2.2.1
    have hol := ord_len2 (isC lay2) rs
    refine J.condF rfl rfl ?_
    refine J.skip rfl ?_
    refine J.seq rfl ?_
    refine J.seq rfl ?_
    refine J.region rfl ?_
    refine JO.pur rfl rfl rfl (Pur.move rfl) ?_
    refine JO.pur rfl rfl rfl (Pur.len rfl) ?_
    refine JO.pur rfl rfl rfl (Pur.loadA rfl rfl rfl CellsIn.blk) ?_
    refine JO.effR rfl rfl rfl (Eff.call rfl (lcount (rs := rs) rfl)) ?_
    refine JO.pur rfl rfl rfl (Pur.neqI rfl rfl) ?_
    refine JO.nil ?_
    refine J.splitB 29 rfl (fun h29 => ?_) (fun h29 => ?_)
    · try simp only [decide_eq_true_eq, decide_eq_false_iff_not, Bool.not_eq_true', Bool.not_eq_false', Bool.and_eq_true, Bool.or_eq_true, Bool.and_eq_false_iff, Bool.or_eq_false_iff, Option.isNone_some, Option.isSome_some, Option.isNone_none, Option.isSome_none, Int.not_lt, Int.not_le, beq_iff_eq, beq_eq_false_iff_ne, bne_iff_ne, ne_eq, Bool.not_not, Decidable.not_not] at h29
      have hlen : xs.length ≠ cntD rs := by rw [hct] at h29; omega
      refine J.condT rfl rfl ?_
      refine J.seq rfl ?_
      refine J.region rfl ?_
      refine JO.pur rfl rfl rfl (Pur.assign rfl) ?_
      refine JO.pur rfl rfl rfl (Pur.assign rfl) ?_
      refine JO.nil ?_
      refine J.ret rfl rfl ?_
      have hv : trnV lay lay2 rs xs = ([], 2) := by unfold trnV; rw [if_neg (not_not_intro h23'), if_pos hlen]
      refine ⟨_, _, ⟨none, 0, rfl, rfl⟩, by rw [hv]; rfl, fun h s => ?_⟩
      rw [hv]; exact sl_nil_new (SubC.out h s)
    · try simp only [decide_eq_true_eq, decide_eq_false_iff_not, Bool.not_eq_true', Bool.not_eq_false', Bool.and_eq_true, Bool.or_eq_true, Bool.and_eq_false_iff, Bool.or_eq_false_iff, Option.isNone_some, Option.isSome_some, Option.isNone_none, Option.isSome_none, Int.not_lt, Int.not_le, beq_iff_eq, beq_eq_false_iff_ne, bne_iff_ne, ne_eq, Bool.not_not, Decidable.not_not] at h29
      have hlen : xs.length = cntD rs := by rw [hct] at h29; omega
      refine J.condF rfl rfl ?_
      refine J.skip rfl ?_
      refine J.seq rfl ?_
      refine J.region rfl ?_
      refine JO.pur rfl rfl rfl (Pur.assign rfl) ?_
      refine JO.nil ?_
      refine J.seq rfl ?_
      refine J.seq rfl ?_
      refine J.region rfl ?_
      refine JO.pur rfl rfl rfl (Pur.move rfl) ?_
      refine JO.pur rfl rfl rfl (Pur.loadA rfl rfl rfl CellsIn.blk) ?_
      refine JO.eff rfl rfl rfl (Eff.call rfl (lall (rs := rs) rfl g2)) ?_
      rintro _ _ ⟨a32, c32, hs, rfl, rfl⟩
      refine JO.pur rfl rfl rfl (Pur.len rfl) ?_
      refine JO.pur rfl rfl rfl (Pur.move rfl) ?_
      refine JO.nil ?_
      refine J.block rfl ?_
      refine J.loopF (ι := Nat × Option Addr × Nat) (fun q => q.1 ≤ (ordL (isC lay2) rs).length) (fun q => [(11, .slice q.2.1 q.1 q.2.2), (34, .int .i64 (q.1 : Int))]) [(0, _), (3, _), (6, _), (32, _), (33, _)] (fun q => sl intE q.2.1 q.2.2 ((pickV (isC lay) rs xs (ordL (isC lay2) rs)).take q.1) :: sl hE a32 c32 hs :: rows intE hs (ordL (isC lay2) rs) :: blk b6 (.cells #[.slice a rs.length cap] 24) :: L) (fun q => (ordL (isC lay2) rs).length - q.1) (0, none, 0) rfl (.cons rfl rfl (.cons rfl rfl (.cons rfl rfl (.cons rfl rfl (.cons rfl rfl .nil))))) (.cons rfl rfl (.cons rfl rfl .nil)) (fun h s => by have s2 := sl_nil_new (E := intE) s; dsimp only; rw [List.take_zero]; exact SubC.out (L := sl intE none 0 [] :: _) h s2) (Nat.zero_le _) ?_
      rintro ⟨k, a0, c0⟩ hk ih0
      try dsimp only
      dsimp only at hk
      have hfl : (pickV (isC lay) rs xs (ordL (isC lay2) rs)).length = (ordL (isC lay2) rs).length := by simp [pickV]
      have htl : ((pickV (isC lay) rs xs (ordL (isC lay2) rs)).take k).length = k := by rw [List.length_take]; omega
      refine J.seq rfl ?_
      refine J.region rfl ?_
      refine JO.pur rfl rfl rfl (Pur.lss rfl rfl) ?_
      refine JO.nil ?_
      refine J.seq rfl ?_
      refine J.splitB 35 rfl (fun h35 => ?_) (fun h35 => ?_)
      · try simp only [decide_eq_true_eq, decide_eq_false_iff_not, Bool.not_eq_true', Bool.not_eq_false', Bool.and_eq_true, Bool.or_eq_true, Bool.and_eq_false_iff, Bool.or_eq_false_iff, Option.isNone_some, Option.isSome_some, Option.isNone_none, Option.isSome_none, Int.not_lt, Int.not_le, beq_iff_eq, beq_eq_false_iff_ne, bne_iff_ne, ne_eq, Bool.not_not, Decidable.not_not] at h35
        have hkl : k < (ordL (isC lay2) rs).length := by omega
        obtain ⟨x, hX⟩ : ∃ x, (ordL (isC lay2) rs)[k]? = some x := ⟨_, List.getElem?_eq_getElem hkl⟩
        have hxm := List.mem_of_getElem? hX
        have hxl := ord_row hxm
        obtain ⟨hz1, hz2⟩ := off_z (c := isC lay) g2.2.2.1 ((mem_ord g2.2.2.1).1 hxm)
        have hap1 := pick_get (c := isC lay) (rs := rs) (xs := xs) hX
        refine J.fact (fun h s => RowsR.len (E := intE) (hs := hs) (xss := (ordL (isC lay2) rs)) s) fun hn0 => ?_
        have hh0 := rows_len hn0
        obtain ⟨hd, hH⟩ : ∃ hd, hs[k]? = some hd := ⟨_, List.getElem?_eq_getElem (by omega)⟩
        refine J.fact (fun h s => RowsR.len (E := intE) (hs := hs) (xss := (ordL (isC lay2) rs)) s) fun hnn => ?_
        refine J.fact (fun h s => RowsR.fit (E := intE) (hs := hs) (xss := (ordL (isC lay2) rs)) s hH hX) fun hfit => ?_
        have hdn := hdr_n hnn hH hX
        refine J.condT rfl rfl ?_
        refine J.skip rfl ?_
        refine J.seq rfl ?_
        refine J.block rfl ?_
        refine J.seq rfl ?_
        refine J.region rfl ?_
        refine JO.pur rfl rfl rfl (Pur.idx rfl rfl rfl (by first | rfl | (simp; done) | omega) rfl (by omega)) ?_
        refine JO.pur rfl rfl rfl (Pur.load rfl (CellIn.el0 rfl hH rfl)) ?_
        refine JO.setv (u' := .slice hd.a hd.n hd.cap) 37 rfl rfl ?_
        refine JO.pur rfl rfl rfl (Pur.assign rfl) ?_
        refine JO.nil ?_
        refine J.seq rfl ?_
        refine J.region rfl ?_
        refine JO.pur rfl rfl rfl (Pur.move rfl) ?_
        refine JO.pur rfl rfl rfl (Pur.loadA rfl rfl rfl CellsIn.blk) ?_
        refine JO.pur rfl rfl rfl (Pur.move rfl) ?_
        refine JO.effR rfl rfl rfl (Eff.call rfl (@loffset _ lay _ _ _ _ _ _ rs x inferInstance (RowsR.row (E := intE) inferInstance hH hX) rfl hdn (by omega) hfit.1 g2)) ?_
        refine JO.pur rfl rfl rfl (Pur.move rfl) ?_
        refine JO.pur rfl rfl rfl (Pur.extract rfl rfl) ?_
        refine JO.setv (u' := .int .i64 ((offZ (isC lay) rs x : Nat) : Int)) 43 rfl rfl ?_
        refine JO.pur rfl rfl rfl (Pur.extract rfl rfl) ?_
        refine JO.pur rfl rfl rfl (Pur.assign rfl) ?_
        refine JO.pur rfl rfl rfl (Pur.assign rfl) ?_
        refine JO.nil ?_
        refine J.region rfl ?_
        refine JO.pur rfl rfl rfl (Pur.move rfl) ?_
        refine JO.pur rfl rfl rfl (Pur.move rfl) ?_
        refine JO.pur rfl rfl rfl (Pur.move rfl) ?_
        refine JO.pur rfl rfl rfl (Pur.idx rfl rfl rfl (by first | rfl | (simp; done) | omega) rfl (by omega)) ?_
        refine JO.pur rfl rfl rfl (Pur.load rfl (CellIn.el0 rfl (getD_at 0 (by omega)) rfl)) ?_
        refine JO.eff rfl rfl rfl (Eff.buildSlice intE [xs.getD (offZ (isC lay) rs x) 0] rfl rfl rfl rfl rfl rfl rfl) ?_
        rintro _ _ ⟨b50, rfl, -, rfl⟩
        refine JO.eff rfl rfl rfl (Eff.append rfl rfl rfl rfl (by first | rfl | omega | (simp; done) | (simp; omega)) (by first | rfl | omega | (simp; done) | (simp; omega)) (by decide) (by simp; omega) (by simp; omega) (fun h => by cases h)) ?_
        rintro _ _ ⟨a51, c51, rfl, rfl⟩
        refine JO.pur rfl rfl rfl (Pur.assign rfl) ?_
        refine JO.nil ?_
        refine J.inBlock ?_
        refine J.region rfl ?_
        refine JO.pur rfl rfl rfl (Pur.add rfl rfl (wr64 (by omega))) ?_
        refine JO.pur rfl rfl rfl (Pur.move rfl) ?_
        refine JO.nil ?_
        exact J.weaken (.cons rfl (by show Value.slice a51 _ c51 = Value.slice a51 (k + 1) c51; rw [htl]; rfl) (.cons rfl (congrArg (Value.int .i64) (by first | rfl | (dsimp only; omega))) (.cons rfl rfl (.cons rfl rfl (.cons rfl rfl (.cons rfl rfl (.cons rfl rfl .nil))))))) (fun h s => by rw [← hap1] at s; exact SubC.out h s) (ih0 (k + 1, a51, c51) (by dsimp only; omega) (by dsimp only; omega))
      · try simp only [decide_eq_true_eq, decide_eq_false_iff_not, Bool.not_eq_true', Bool.not_eq_false', Bool.and_eq_true, Bool.or_eq_true, Bool.and_eq_false_iff, Bool.or_eq_false_iff, Option.isNone_some, Option.isSome_some, Option.isNone_none, Option.isSome_none, Int.not_lt, Int.not_le, beq_iff_eq, beq_eq_false_iff_ne, bne_iff_ne, ne_eq, Bool.not_not, Decidable.not_not] at h35
        have hke : k = (pickV (isC lay) rs xs (ordL (isC lay2) rs)).length := by omega
        refine J.condF rfl rfl ?_
        refine J.exit rfl rfl ?_
        refine J.seq rfl ?_
        refine J.region rfl ?_
        refine JO.pur rfl rfl rfl (Pur.move rfl) ?_
        refine JO.pur rfl rfl rfl (Pur.assign rfl) ?_
        refine JO.pur rfl rfl rfl (Pur.assign rfl) ?_
        refine JO.nil ?_
        refine J.ret rfl rfl ?_
        have hv : trnV lay lay2 rs xs = ((pickV (isC lay) rs xs (ordL (isC lay2) rs)), 0) := by unfold trnV; rw [if_neg (not_not_intro h23'), if_neg (not_not_intro hlen)]
        refine ⟨_, _, ⟨a0, c0, rfl, rfl⟩, by rw [hv, hke]; rfl, fun h s => ?_⟩
        rw [hke, List.take_length] at s
        rw [hv]
        exact SubC.out h s

theorem rTurn {L : List Asn} {lay lay2 : ByteArray} {a d : Option Addr} {n cap vn vc : Nat} {rs : List Rg} {xs : List Int} [SlIn rgE L a rs] [SlIn intE L d xs] (hn : n = rs.length) (hv : vn = xs.length) :
    CallS Try.prog 65 [.string lay, .string lay2, .agg #[.slice a n cap], .slice d vn vc].toArray L (fun v M => ∃ a' c', v = .tuple #[.slice a' (trnV lay lay2 rs xs).1.length c', .int .i64 (trnV lay lay2 rs xs).2] ∧ M = sl intE a' c' (trnV lay lay2 rs xs).1 :: L) := by
  subst hn
  subst hv
  refine CallS.ent ?_
  refine CallS.enter Try.func65 rfl rfl rfl rfl rfl ?_
  refine J.seq rfl ?_
  refine J.region rfl ?_
  refine JO.eff rfl rfl rfl (Eff.box (cs := [_]) rfl rfl) ?_
  rintro _ _ ⟨b6, rfl, rfl⟩
  refine JO.pur rfl rfl rfl (Pur.assign rfl) ?_
  refine JO.pur rfl rfl rfl (Pur.assign rfl) ?_
  refine JO.nil ?_
  refine J.seq rfl ?_
  refine J.seq rfl ?_
  refine J.region rfl ?_
  refine JO.pur rfl rfl rfl (Pur.move rfl) ?_
  refine JO.pur rfl rfl rfl (Pur.move rfl) ?_
  refine JO.pur rfl rfl rfl (Pur.loadA rfl rfl rfl CellsIn.blk) ?_
  refine JO.pur rfl rfl rfl (Pur.loadA rfl rfl rfl CellsIn.blk) ?_
  refine JO.effR rfl rfl rfl (Eff.call rfl (rAsked (lay := lay) (lay2 := lay2) (rs := rs) (ss := rs) rfl rfl)) ?_
  rw [rAsk21]
  refine JO.pur rfl rfl rfl (Pur.assign rfl) ?_
  refine JO.nil ?_
  refine J.seq rfl ?_
  refine J.region rfl ?_
  refine JO.pur rfl rfl rfl (Pur.move rfl) ?_
  refine JO.pur rfl rfl rfl (Pur.neqI rfl rfl) ?_
  refine JO.nil ?_
  refine J.splitB 21 rfl (fun h21 => ?_) (fun h21 => ?_)
  · try simp only [decide_eq_true_eq, decide_eq_false_iff_not, Bool.not_eq_true', Bool.not_eq_false', Bool.and_eq_true, Bool.or_eq_true, Bool.and_eq_false_iff, Bool.or_eq_false_iff, Option.isNone_some, Option.isSome_some, Option.isNone_none, Option.isSome_none, Int.not_lt, Int.not_le, beq_iff_eq, beq_eq_false_iff_ne, bne_iff_ne, ne_eq, Bool.not_not, Decidable.not_not] at h21
    have h21' : ask21 lay lay2 rs ≠ 0 := h21
    refine J.condT rfl rfl ?_
    refine J.seq rfl ?_
    refine J.region rfl ?_
    refine JO.pur rfl rfl rfl (Pur.move rfl) ?_
    refine JO.pur rfl rfl rfl (Pur.assign rfl) ?_
    refine JO.pur rfl rfl rfl (Pur.assign rfl) ?_
    refine JO.nil ?_
    refine J.ret rfl rfl ?_
    have hv : trnV lay lay2 rs xs = ([], ask21 lay lay2 rs) := by unfold trnV; rw [if_pos h21']
    refine ⟨_, _, ⟨none, 0, rfl, rfl⟩, by rw [hv]; rfl, fun h s => ?_⟩
    rw [hv]; exact sl_nil_new (SubC.out h s)
  · try simp only [decide_eq_true_eq, decide_eq_false_iff_not, Bool.not_eq_true', Bool.not_eq_false', Bool.and_eq_true, Bool.or_eq_true, Bool.and_eq_false_iff, Bool.or_eq_false_iff, Option.isNone_some, Option.isSome_some, Option.isNone_none, Option.isSome_none, Int.not_lt, Int.not_le, beq_iff_eq, beq_eq_false_iff_ne, bne_iff_ne, ne_eq, Bool.not_not, Decidable.not_not] at h21
    have h21' : ask21 lay lay2 rs = 0 := by simpa using h21
    obtain ⟨g0, g1, g2⟩ := ask21_ok h21'
    have hc4 := g2.2.2.2
    have hl3 := g2.2.1
    have hol := ord_len2 (isC lay2) rs
    have hol1 := ord_len2 (isC lay) rs
    refine J.condF rfl rfl ?_
    refine J.skip rfl ?_
    refine J.seq rfl ?_
    refine J.mask0 (n := 8) [] rfl Try.mixed rfl (by kernel_rfl) ?_
    refine JM.take 0 (fun _ h => h) rfl (by kernel_rfl) rfl rfl rfl (m' := 1) rfl (Pur.move rfl) ?_
    refine JM.take 1 (fun _ h => h) rfl (by kernel_rfl) rfl rfl rfl (m' := 3) rfl (Pur.loadA rfl rfl rfl CellsIn.blk) ?_
    refine JM.take 3 (fun _ h => h) rfl (by kernel_rfl) rfl rfl rfl (m' := 11) rfl (Pur.move rfl) ?_
    refine JM.take 4 (fun _ h => h) rfl (by kernel_rfl) rfl rfl rfl (m' := 27) rfl (Pur.loadA rfl rfl rfl CellsIn.blk) ?_
    refine JM.one (i := 2) (by kernel_rfl) ?_
    refine JMi.eff rfl rfl rfl rfl (m' := 31) rfl (Eff.call rfl (rorder (rs := rs) rfl g2 g0)) ?_
    rintro _ _ ⟨a25, c25, hs, rfl, rfl⟩
    refine ⟨.inr (fun _ h => h.tail.tail), ?_⟩
    refine JM.one (i := 5) (by kernel_rfl) ?_
    refine JMi.eff rfl rfl rfl rfl (m' := 63) rfl (Eff.call rfl (rorder (rs := rs) rfl g2 g1)) ?_
    rintro _ _ ⟨a28, c28, hs2, rfl, rfl⟩
    refine ⟨.inr (fun _ h => h.tail.tail.tail.tail), ?_⟩
    refine JM.take 6 (fun _ h => h.tail.tail.tail.tail) rfl (by kernel_rfl) rfl rfl rfl (m' := 127) rfl (Pur.assign rfl) ?_
    refine JM.take 7 (fun _ h => h.tail.tail.tail.tail) rfl (by kernel_rfl) rfl rfl rfl (m' := 255) rfl (Pur.assign rfl) ?_
    refine JM.done rfl ?_
    refine J.seq rfl ?_
    refine J.seq rfl ?_
    refine J.region rfl ?_
    refine JO.pur rfl rfl rfl (Pur.move rfl) ?_
    refine JO.pur rfl rfl rfl (Pur.len rfl) ?_
    refine JO.pur rfl rfl rfl (Pur.move rfl) ?_
    refine JO.pur rfl rfl rfl (Pur.len rfl) ?_
    refine JO.pur rfl rfl rfl (Pur.neqI rfl rfl) ?_
    refine JO.nil ?_
    refine J.splitB 33 rfl (fun h33 => ?_) (fun h33 => ?_)
    · try simp only [decide_eq_true_eq, decide_eq_false_iff_not, Bool.not_eq_true', Bool.not_eq_false', Bool.and_eq_true, Bool.or_eq_true, Bool.and_eq_false_iff, Bool.or_eq_false_iff, Option.isNone_some, Option.isSome_some, Option.isNone_none, Option.isSome_none, Int.not_lt, Int.not_le, beq_iff_eq, beq_eq_false_iff_ne, bne_iff_ne, ne_eq, Bool.not_not, Decidable.not_not] at h33
      have hlen : xs.length ≠ cntD rs := by omega
      refine J.condT rfl rfl ?_
      refine J.seq rfl ?_
      refine J.region rfl ?_
      refine JO.pur rfl rfl rfl (Pur.assign rfl) ?_
      refine JO.pur rfl rfl rfl (Pur.assign rfl) ?_
      refine JO.nil ?_
      refine J.ret rfl rfl ?_
      have hv : trnV lay lay2 rs xs = ([], 2) := by unfold trnV; rw [if_neg (not_not_intro h21'), if_pos hlen]
      refine ⟨_, _, ⟨none, 0, rfl, rfl⟩, by rw [hv]; rfl, fun h s => ?_⟩
      rw [hv]; exact sl_nil_new (SubC.out h s)
    · try simp only [decide_eq_true_eq, decide_eq_false_iff_not, Bool.not_eq_true', Bool.not_eq_false', Bool.and_eq_true, Bool.or_eq_true, Bool.and_eq_false_iff, Bool.or_eq_false_iff, Option.isNone_some, Option.isSome_some, Option.isNone_none, Option.isSome_none, Int.not_lt, Int.not_le, beq_iff_eq, beq_eq_false_iff_ne, bne_iff_ne, ne_eq, Bool.not_not, Decidable.not_not] at h33
      have hlen : xs.length = cntD rs := by omega
      refine J.condF rfl rfl ?_
      refine J.skip rfl ?_
      refine J.seq rfl ?_
      refine J.fact (fun h s => RowsR.len (E := intE) (hs := hs) (xss := (ordL (isC lay) rs)) s) fun hn0 => ?_
      have hh0 := rows_len hn0
      refine J.fact (fun h s => RowsR.len (E := intE) (hs := hs2) (xss := (ordL (isC lay2) rs)) s) fun hn2 => ?_
      have hh2 := rows_len hn2
      have hrw2 : ∀ y ∈ (ordL (isC lay) rs), y.length ≤ 1000000 := fun y hy => by have := ord_row hy; omega
      refine J.region rfl ?_
      refine JO.pur rfl rfl rfl (Pur.assign rfl) ?_
      refine JO.nil ?_
      refine J.seq rfl ?_
      refine J.seq rfl ?_
      refine J.region rfl ?_
      refine JO.pur rfl rfl rfl (Pur.assign rfl) ?_
      refine JO.nil ?_
      refine J.block rfl ?_
      refine J.loopF (ι := Nat × Option Addr × Nat) (fun q => q.1 ≤ (ordL (isC lay2) rs).length) (fun q => [(13, .slice q.2.1 q.1 q.2.2), (14, .int .i64 (q.1 : Int))]) [(3, _), (11, _), (12, _)] (fun q => sl intE q.2.1 q.2.2 ((pickV (isC lay) rs xs (ordL (isC lay2) rs)).take q.1) :: sl hE a25 c25 hs :: rows intE hs (ordL (isC lay) rs) :: sl hE a28 c28 hs2 :: rows intE hs2 (ordL (isC lay2) rs) :: L) (fun q => (ordL (isC lay2) rs).length - q.1) (0, none, 0) rfl (.cons rfl rfl (.cons rfl rfl (.cons rfl rfl .nil))) (.cons rfl rfl (.cons rfl rfl .nil)) (fun h s => by have s2 := sl_nil_new (E := intE) s; dsimp only; rw [List.take_zero]; exact SubC.out (L := sl intE none 0 [] :: _) h s2) (Nat.zero_le _) ?_
      rintro ⟨k, a0, c0⟩ hk ih0
      try dsimp only
      dsimp only at hk
      have hfl : (pickV (isC lay) rs xs (ordL (isC lay2) rs)).length = (ordL (isC lay2) rs).length := by simp [pickV]
      have htl : ((pickV (isC lay) rs xs (ordL (isC lay2) rs)).take k).length = k := by rw [List.length_take]; omega
      refine J.seq rfl ?_
      refine J.seq rfl ?_
      refine J.region rfl ?_
      refine JO.pur rfl rfl rfl (Pur.move rfl) ?_
      refine JO.pur rfl rfl rfl (Pur.move rfl) ?_
      refine JO.pur rfl rfl rfl (Pur.len rfl) ?_
      refine JO.pur rfl rfl rfl (Pur.lss rfl rfl) ?_
      refine JO.nil ?_
      refine J.splitB 37 rfl (fun h37 => ?_) (fun h37 => ?_)
      · try simp only [decide_eq_true_eq, decide_eq_false_iff_not, Bool.not_eq_true', Bool.not_eq_false', Bool.and_eq_true, Bool.or_eq_true, Bool.and_eq_false_iff, Bool.or_eq_false_iff, Option.isNone_some, Option.isSome_some, Option.isNone_none, Option.isSome_none, Int.not_lt, Int.not_le, beq_iff_eq, beq_eq_false_iff_ne, bne_iff_ne, ne_eq, Bool.not_not, Decidable.not_not] at h37
        have hkl : k < (ordL (isC lay2) rs).length := by omega
        obtain ⟨x, hX⟩ : ∃ x, (ordL (isC lay2) rs)[k]? = some x := ⟨_, List.getElem?_eq_getElem hkl⟩
        have hxm := List.mem_of_getElem? hX
        have hxl := ord_row hxm
        obtain ⟨hz1, hz2⟩ := off_z (c := isC lay) g2.2.2.1 ((mem_ord g2.2.2.1).1 hxm)
        have hap1 := pick_get (c := isC lay) (rs := rs) (xs := xs) hX
        obtain ⟨hd, hH⟩ : ∃ hd, hs2[k]? = some hd := ⟨_, List.getElem?_eq_getElem (by omega)⟩
        have hdn := hdr_n hn2 hH hX
        have hfi : findL (ordL (isC lay) rs) x = ((offZ (isC lay) rs x : Nat) : Int) := by rw [findL_off g2.2.2.1, hz1]
        refine J.condT rfl rfl ?_
        refine J.skip rfl ?_
        refine J.seq rfl ?_
        refine J.block rfl ?_
        refine J.region rfl ?_
        refine JO.pur rfl rfl rfl (Pur.move rfl) ?_
        refine JO.pur rfl rfl rfl (Pur.move rfl) ?_
        refine JO.pur rfl rfl rfl (Pur.move rfl) ?_
        refine JO.pur rfl rfl rfl (Pur.move rfl) ?_
        refine JO.pur rfl rfl rfl (Pur.move rfl) ?_
        refine JO.pur rfl rfl rfl (Pur.idx rfl rfl rfl (by first | rfl | (simp; done) | omega) rfl (by omega)) ?_
        refine JO.pur rfl rfl rfl (Pur.load rfl (CellIn.el0 rfl hH rfl)) ?_
        refine JO.setv (u' := .slice hd.a hd.n hd.cap) 46 rfl rfl ?_
        refine JO.effR rfl rfl rfl (Eff.call rfl (@rfind _ _ _ _ _ _ _ hs (ordL (isC lay) rs) x inferInstance (by infer_instance) (RowsR.row (E := intE) inferInstance hH hX) (by omega) hdn hrw2 (by omega))) ?_
        rw [hfi]
        refine JO.pur rfl rfl rfl (Pur.idx rfl rfl rfl (by first | rfl | (simp; done) | omega) rfl (by omega)) ?_
        refine JO.pur rfl rfl rfl (Pur.load rfl (CellIn.el0 rfl (getD_at 0 (by omega)) rfl)) ?_
        refine JO.eff rfl rfl rfl (Eff.buildSlice intE [xs.getD (offZ (isC lay) rs x) 0] rfl rfl rfl rfl rfl rfl rfl) ?_
        rintro _ _ ⟨b50, rfl, -, rfl⟩
        refine JO.eff rfl rfl rfl (Eff.append rfl rfl rfl rfl (by first | rfl | omega | (simp; done) | (simp; omega)) (by first | rfl | omega | (simp; done) | (simp; omega)) (by decide) (by simp; omega) (by simp; omega) (fun h => by cases h)) ?_
        rintro _ _ ⟨a51, c51, rfl, rfl⟩
        refine JO.pur rfl rfl rfl (Pur.assign rfl) ?_
        refine JO.nil ?_
        refine J.inBlock ?_
        refine J.region rfl ?_
        refine JO.pur rfl rfl rfl (Pur.move rfl) ?_
        refine JO.pur rfl rfl rfl (Pur.add rfl rfl (wr64 (by omega))) ?_
        refine JO.pur rfl rfl rfl (Pur.assign rfl) ?_
        refine JO.nil ?_
        exact J.weaken (.cons rfl (by show Value.slice a51 _ c51 = Value.slice a51 (k + 1) c51; rw [htl]; rfl) (.cons rfl (congrArg (Value.int .i64) (by first | rfl | (dsimp only; omega))) (.cons rfl rfl (.cons rfl rfl (.cons rfl rfl .nil))))) (fun h s => by rw [← hap1] at s; exact SubC.out h s) (ih0 (k + 1, a51, c51) (by dsimp only; omega) (by dsimp only; omega))
      · try simp only [decide_eq_true_eq, decide_eq_false_iff_not, Bool.not_eq_true', Bool.not_eq_false', Bool.and_eq_true, Bool.or_eq_true, Bool.and_eq_false_iff, Bool.or_eq_false_iff, Option.isNone_some, Option.isSome_some, Option.isNone_none, Option.isSome_none, Int.not_lt, Int.not_le, beq_iff_eq, beq_eq_false_iff_ne, bne_iff_ne, ne_eq, Bool.not_not, Decidable.not_not] at h37
        have hke : k = (pickV (isC lay) rs xs (ordL (isC lay2) rs)).length := by omega
        refine J.condF rfl rfl ?_
        refine J.exit rfl rfl ?_
        refine J.seq rfl ?_
        refine J.region rfl ?_
        refine JO.pur rfl rfl rfl (Pur.move rfl) ?_
        refine JO.pur rfl rfl rfl (Pur.assign rfl) ?_
        refine JO.pur rfl rfl rfl (Pur.assign rfl) ?_
        refine JO.nil ?_
        refine J.ret rfl rfl ?_
        have hv : trnV lay lay2 rs xs = ((pickV (isC lay) rs xs (ordL (isC lay2) rs)), 0) := by unfold trnV; rw [if_neg (not_not_intro h21'), if_neg (not_not_intro hlen)]
        refine ⟨_, _, ⟨a0, c0, rfl, rfl⟩, by rw [hv, hke]; rfl, fun h s => ?_⟩
        rw [hke, List.take_length] at s
        rw [hv]
        exact SubC.out h s

end Go.Proofs.Ytnhippfllgnngaa
