/-
  A part of the proof of the claim that this folder bears.
-/
import Derived.Test.YtnhippfllgnngaaPAL
import Derived.Test.YtnhippfllgnngaaPAH
import Derived.Test.YtnhippfllgnngaaPAK
/- The text SJ2. -/
set_option linter.unusedVariables false
set_option linter.unusedSimpArgs false
set_option maxRecDepth 10000
namespace Go.Proofs.Ytnhippfllgnngaa
open Go Go.KK Dm

/-- The sparse domain of some places. -/
def madeL (rs : List Rg) (ts : List Int) : List (List Int) := ((List.range (cntD rs)).filter fun (i : Nat) => decide ((i : Int) ∈ ts)).map (ixD rs)
def madeK (rs : List Rg) (ts : List Int) (k : Nat) : List (List Int) := ((List.range k).filter fun (i : Nat) => decide ((i : Int) ∈ ts)).map (ixD rs)
theorem madeK_all (rs : List Rg) (ts : List Int) : madeK rs ts (cntD rs) = madeL rs ts := rfl
theorem madeK_yes {rs : List Rg} {ts : List Int} {k : Nat} (h : (k : Int) ∈ ts) : madeK rs ts (k + 1) = madeK rs ts k ++ [ixD rs k] := by
  unfold madeK
  rw [List.range_succ, List.filter_append, List.map_append]
  simp [h]
theorem madeK_no {rs : List Rg} {ts : List Int} {k : Nat} (h : ¬ (k : Int) ∈ ts) : madeK rs ts (k + 1) = madeK rs ts k := by
  unfold madeK
  rw [List.range_succ, List.filter_append, List.map_append]
  simp [h]
theorem madeK_len (rs : List Rg) (ts : List Int) (k : Nat) : (madeK rs ts k).length ≤ k := by
  unfold madeK; rw [List.length_map]; exact Nat.le_trans (List.length_filter_le _ _) (by simp)
def hasL (n : Nat) (ts : List Int) : List Bool := (List.range n).map fun (i : Nat) => decide ((i : Int) ∈ ts)
theorem hasL_nil (n : Nat) : hasL n [] = List.replicate n false := by
  apply List.ext_getElem?
  intro j
  unfold hasL
  rw [List.getElem?_map, List.getElem?_replicate]
  by_cases h : j < n
  · rw [List.getElem?_range h, if_pos h]; simp
  · rw [List.getElem?_eq_none (by simp; omega), if_neg h]; rfl
theorem hasL_len (n : Nat) (ts : List Int) : (hasL n ts).length = n := by simp [hasL]
theorem hasL_get {n : Nat} {ts : List Int} {k : Nat} (h : k < n) : (hasL n ts)[k]? = some (decide ((k : Int) ∈ ts)) := by
  unfold hasL; rw [List.getElem?_map, List.getElem?_range h]; rfl
theorem hasL_snoc {n : Nat} {ts : List Int} {t : Nat} (h : t < n) : (hasL n ts).set t true = hasL n (ts ++ [(t : Int)]) := by
  apply List.ext_getElem?
  intro j
  rw [List.getElem?_set]
  by_cases hj : j < n
  · rw [hasL_get hj, hasL_get hj]
    by_cases e : t = j
    · subst e; rw [if_pos rfl, if_pos (by rw [hasL_len]; exact h)]; simp
    · rw [if_neg e]
      have : ((j : Int) ∈ ts ++ [(t : Int)]) ↔ (j : Int) ∈ ts := by
        simp only [List.mem_append, List.mem_singleton]
        constructor
        · rintro (g | g)
          · exact g
          · exact absurd (Int.ofNat.inj g).symm e
        · exact .inl
      exact congrArg some (decide_eq_decide.2 this.symm)
  · rw [List.getElem?_eq_none (by rw [hasL_len]; omega), List.getElem?_eq_none (by rw [hasL_len]; omega)]
    split
    · rename_i e; subst e; exact absurd h hj
    · rfl
theorem made_ok {L : List Asn} {a ta : Option Addr} {n cap tn tc : Nat} {rs : List Rg} {ts : List Int} [SlIn rgE L a rs] [SlIn intE L ta ts] (hn : n = rs.length) (htn : tn = ts.length) (hok : okD rs) (htb : ts.length ≤ 100000000) (hin : ∀ t ∈ ts, 0 ≤ t ∧ t < (cntD rs : Int)) :
    CallS Try.prog 98 [.agg #[.slice a n cap], .slice ta tn tc].toArray L (fun v M => ∃ pa pc qa qc hs', v = .agg #[.slice pa rs.length pc, .slice qa (madeL rs ts).length qc] ∧ M = sl rgE pa pc rs :: sl hE qa qc hs' :: rows intE hs' (madeL rs ts) :: L) := by
  subst hn
  subst htn
  have hc4 := hok.2.2.2
  have hl3 := hok.2.1
  have hl1 := hok.1
  refine CallS.ent ?_
  refine CallS.enter Try.func98 rfl rfl rfl rfl rfl ?_
  refine J.seq rfl ?_
  refine J.region rfl ?_
  refine JO.eff rfl rfl rfl (Eff.box (cs := [_]) rfl rfl) ?_
  rintro _ _ ⟨b2, rfl, rfl⟩
  refine JO.eff rfl rfl rfl (Eff.alloc (cs := [_, _]) rfl) ?_
  rintro _ _ ⟨b4, rfl, rfl⟩
  refine JO.nil ?_
  refine J.seq rfl ?_
  refine J.region rfl ?_
  refine JO.pur rfl rfl rfl (Pur.loadA rfl rfl rfl CellsIn.blk) ?_
  refine JO.eff rfl rfl rfl (Eff.call rfl (cloneDr (rs := rs) rfl hok)) ?_
  rintro _ _ ⟨a14, c14, rfl, rfl⟩
  refine JO.pur rfl rfl rfl (Pur.build (cs := [_, _]) rfl rfl) ?_
  refine JO.eff rfl rfl rfl (Eff.alloc (cs := [_, _]) rfl) ?_
  rintro _ _ ⟨b5, rfl, rfl⟩
  refine JO.effN rfl rfl (Eff.storeBA (cs' := [_, _]) rfl rfl (by rfl) (by rfl) (by rfl)) ?_
  rintro _ _ ⟨rfl, rfl⟩
  refine JO.nil ?_
  refine J.seq rfl ?_
  refine J.region rfl ?_
  refine JO.pur rfl rfl rfl (Pur.loadA rfl rfl rfl CellsIn.blk) ?_
  refine JO.effR rfl rfl rfl (Eff.call rfl (r_Count (rs := rs) rfl)) ?_
  refine JO.pur rfl rfl rfl (Pur.move rfl) ?_
  refine JO.pur rfl rfl rfl (Pur.extract rfl rfl) ?_
  refine JO.setv (u' := .int .i64 ((cntD rs : Nat) : Int)) 19 rfl (congrArg (Value.int .i64) (show ctV rs = _ by unfold ctV; rw [if_pos hok])) ?_
  refine JO.pur rfl rfl rfl (Pur.extract rfl rfl) ?_
  refine JO.pur rfl rfl rfl (Pur.assign rfl) ?_
  refine JO.pur rfl rfl rfl (Pur.assign rfl) ?_
  refine JO.nil ?_
  refine J.seq rfl ?_
  refine J.region rfl ?_
  refine JO.pur rfl rfl rfl (Pur.move rfl) ?_
  refine JO.eff rfl rfl rfl (Eff.make boE false rfl rfl rfl rfl rfl (by decide) (by omega) (by omega)) ?_
  rintro _ _ ⟨b22, rfl, rfl⟩
  refine JO.pur rfl rfl rfl (Pur.assign rfl) ?_
  refine JO.nil ?_
  refine J.seq rfl ?_
  refine J.seq rfl ?_
  refine J.region rfl ?_
  refine JO.pur rfl rfl rfl (Pur.assign rfl) ?_
  refine JO.nil ?_
  refine J.block rfl ?_
  refine J.loopF (ι := Nat) (fun q => q ≤ ts.length) (fun q => [(9, .int .i64 (q : Int))]) [(1, _), (2, _), (4, _), (5, _), (6, _), (8, _)] (fun q => sl boE (some ⟨b22, 0, none⟩) (cntD rs) (hasL (cntD rs) (ts.take q)) :: blk b5 (.cells #[.slice a14 rs.length c14, .slice none 0 0] 27) :: sl rgE a14 c14 rs :: blk b4 (.cells #[.slice none 0 0, .slice none 0 0] 27) :: blk b2 (.cells #[.slice a rs.length cap] 24) :: L) (fun q => ts.length - q) 0 rfl (.cons rfl rfl (.cons rfl rfl (.cons rfl rfl (.cons rfl rfl (.cons rfl rfl (.cons rfl rfl .nil)))))) (.cons rfl rfl .nil) (fun h s => by rw [List.take_zero, hasL_nil]; exact SubC.out h s) (Nat.zero_le _) ?_
  rintro k hk ihk
  try dsimp only
  refine J.seq rfl ?_
  refine J.seq rfl ?_
  refine J.region rfl ?_
  refine JO.pur rfl rfl rfl (Pur.move rfl) ?_
  refine JO.pur rfl rfl rfl (Pur.move rfl) ?_
  refine JO.pur rfl rfl rfl (Pur.len rfl) ?_
  refine JO.pur rfl rfl rfl (Pur.lss rfl rfl) ?_
  refine JO.nil ?_
  refine J.splitB 26 rfl (fun h26 => ?_) (fun h26 => ?_)
  · try simp only [decide_eq_true_eq, decide_eq_false_iff_not, Bool.not_eq_true', Bool.not_eq_false', Bool.and_eq_true, Bool.or_eq_true, Bool.and_eq_false_iff, Bool.or_eq_false_iff, Option.isNone_some, Option.isSome_some, Option.isNone_none, Option.isSome_none, Int.not_lt, Int.not_le, beq_iff_eq, beq_eq_false_iff_ne, bne_iff_ne, ne_eq, Bool.not_not, Decidable.not_not] at h26
    have hkl : k < ts.length := by omega
    obtain ⟨t, hT⟩ : ∃ t, ts[k]? = some t := ⟨_, List.getElem?_eq_getElem hkl⟩
    obtain ⟨ht0, ht1⟩ := hin t (List.mem_of_getElem? hT)
    obtain ⟨tt, rfl⟩ : ∃ tt : Nat, t = (tt : Int) := ⟨t.toNat, by omega⟩
    have htl : tt < cntD rs := by omega
    have htk : ts.take (k + 1) = ts.take k ++ [(tt : Int)] := take_get hT
    have hhl := hasL_len (cntD rs) (ts.take k)
    refine J.condT rfl rfl ?_
    refine J.skip rfl ?_
    refine J.seq rfl ?_
    refine J.block rfl ?_
    refine J.region rfl ?_
    refine JO.pur rfl rfl rfl (Pur.move rfl) ?_
    refine JO.pur rfl rfl rfl (Pur.move rfl) ?_
    refine JO.pur rfl rfl rfl (Pur.move rfl) ?_
    refine JO.pur rfl rfl rfl (Pur.idx rfl rfl rfl (by first | rfl | (simp; done) | omega) rfl (by omega)) ?_
    refine JO.pur rfl rfl rfl (Pur.load rfl (CellIn.el0 rfl hT rfl)) ?_
    refine JO.pur rfl rfl rfl (Pur.idx rfl rfl rfl (by first | rfl | (simp; done) | omega) rfl (by omega)) ?_
    refine JO.effN rfl rfl (Eff.storeS0 (z' := true) rfl rfl rfl rfl (List.getElem?_eq_getElem (by omega)) .head) ?_
    rintro _ _ ⟨rfl, rfl⟩
    refine JO.nil ?_
    refine J.inBlock ?_
    refine J.region rfl ?_
    refine JO.pur rfl rfl rfl (Pur.move rfl) ?_
    refine JO.pur rfl rfl rfl (Pur.add rfl rfl (wr64 (by omega))) ?_
    refine JO.pur rfl rfl rfl (Pur.assign rfl) ?_
    refine JO.nil ?_
    exact J.weaken (.cons rfl (congrArg (Value.int .i64) (by first | rfl | (dsimp only; omega))) (.cons rfl rfl (.cons rfl rfl (.cons rfl rfl (.cons rfl rfl (.cons rfl rfl (.cons rfl rfl .nil))))))) (fun h s => by rw [htk, ← hasL_snoc htl]; exact SubC.out h s) (ihk (k + 1) (by omega) (by omega))
  · try simp only [decide_eq_true_eq, decide_eq_false_iff_not, Bool.not_eq_true', Bool.not_eq_false', Bool.and_eq_true, Bool.or_eq_true, Bool.and_eq_false_iff, Bool.or_eq_false_iff, Option.isNone_some, Option.isSome_some, Option.isNone_none, Option.isSome_none, Int.not_lt, Int.not_le, beq_iff_eq, beq_eq_false_iff_ne, bne_iff_ne, ne_eq, Bool.not_not, Decidable.not_not] at h26
    have hke : k = ts.length := by omega
    subst hke
    rw [List.take_length]
    refine J.condF rfl rfl ?_
    refine J.exit rfl rfl ?_
    refine J.seq rfl ?_
    refine J.seq rfl ?_
    refine J.region rfl ?_
    refine JO.pur rfl rfl rfl (Pur.assign rfl) ?_
    refine JO.nil ?_
    refine J.block rfl ?_
    refine J.loopF (ι := Nat × Option Addr × Nat × List Hdr) (fun q => q.1 ≤ cntD rs ∧ q.2.2.2.length = (madeK rs ts q.1).length) (fun q => [(10, .int .i64 (q.1 : Int))]) [(2, _), (4, _), (5, _), (6, _), (8, _)] (fun q => blk b5 (.cells #[.slice a14 rs.length c14, .slice q.2.1 (madeK rs ts q.1).length q.2.2.1] 27) :: sl hE q.2.1 q.2.2.1 q.2.2.2 :: rows intE q.2.2.2 (madeK rs ts q.1) :: sl boE (some ⟨b22, 0, none⟩) (cntD rs) (hasL (cntD rs) ts) :: sl rgE a14 c14 rs :: blk b4 (.cells #[.slice none 0 0, .slice none 0 0] 27) :: blk b2 (.cells #[.slice a rs.length cap] 24) :: L) (fun q => cntD rs - q.1) (0, none, 0, []) rfl (.cons rfl rfl (.cons rfl rfl (.cons rfl rfl (.cons rfl rfl (.cons rfl rfl .nil))))) (.cons rfl rfl .nil) (fun h s => by have s2 := sl_nil_new (E := hE) (rows_nil (E := intE) s); dsimp only; rw [show madeK rs ts 0 = [] from rfl]; exact SubC.out (L := sl hE none 0 [] :: rows intE [] [] :: _) h s2) ⟨Nat.zero_le _, rfl⟩ ?_
    rintro ⟨j, a0, c0, hs0⟩ ⟨hj, hh0⟩ ihj
    try dsimp only
    dsimp only at hj hh0
    refine J.seq rfl ?_
    refine J.seq rfl ?_
    refine J.region rfl ?_
    refine JO.pur rfl rfl rfl (Pur.move rfl) ?_
    refine JO.pur rfl rfl rfl (Pur.move rfl) ?_
    refine JO.pur rfl rfl rfl (Pur.lss rfl rfl) ?_
    refine JO.nil ?_
    refine J.splitB 37 rfl (fun h37 => ?_) (fun h37 => ?_)
    · try simp only [decide_eq_true_eq, decide_eq_false_iff_not, Bool.not_eq_true', Bool.not_eq_false', Bool.and_eq_true, Bool.or_eq_true, Bool.and_eq_false_iff, Bool.or_eq_false_iff, Option.isNone_some, Option.isSome_some, Option.isNone_none, Option.isSome_none, Int.not_lt, Int.not_le, beq_iff_eq, beq_eq_false_iff_ne, bne_iff_ne, ne_eq, Bool.not_not, Decidable.not_not] at h37
      have hjl : j < cntD rs := by omega
      have hhl := hasL_len (cntD rs) ts
      have hhg := hasL_get (ts := ts) hjl
      have hxl := ixD_len hjl
      have hml := madeK_len rs ts j
      refine J.condT rfl rfl ?_
      refine J.skip rfl ?_
      refine J.seq rfl ?_
      refine J.block rfl ?_
      refine J.seq rfl ?_
      refine J.region rfl ?_
      refine JO.pur rfl rfl rfl (Pur.move rfl) ?_
      refine JO.pur rfl rfl rfl (Pur.move rfl) ?_
      refine JO.pur rfl rfl rfl (Pur.idx rfl rfl rfl (by first | rfl | (simp; done) | omega) rfl (by omega)) ?_
      refine JO.pur rfl rfl rfl (Pur.load rfl (CellIn.el0 rfl hhg rfl)) ?_
      refine JO.nil ?_
      refine J.splitB 43 rfl (fun h43 => ?_) (fun h43 => ?_)
      · try simp only [decide_eq_true_eq, decide_eq_false_iff_not, Bool.not_eq_true', Bool.not_eq_false', Bool.and_eq_true, Bool.or_eq_true, Bool.and_eq_false_iff, Bool.or_eq_false_iff, Option.isNone_some, Option.isSome_some, Option.isNone_none, Option.isSome_none, Int.not_lt, Int.not_le, beq_iff_eq, beq_eq_false_iff_ne, bne_iff_ne, ne_eq, Bool.not_not, Decidable.not_not] at h43
        have hst := madeK_yes (rs := rs) h43
        obtain ⟨y, hy⟩ : ∃ y, y = ixD rs j := ⟨_, rfl⟩
        rw [← hy] at hst hxl
        have hith : ithV rs ((j : Nat) : Int) = (y, 0) := by unfold ithV; rw [if_neg (not_not_intro hok), if_neg (by omega), hy]; rfl
        refine J.condT rfl rfl ?_
        refine J.seq rfl ?_
        refine J.region rfl ?_
        refine JO.pur rfl rfl rfl (Pur.loadA rfl rfl rfl CellsIn.blk) ?_
        refine JO.pur rfl rfl rfl (Pur.move rfl) ?_
        refine JO.eff rfl rfl rfl (Eff.call rfl (r_Ith (rs := rs) (i := ((j : Nat) : Int)) rfl)) ?_
        rintro _ _ ⟨a47, c47, rfl, rfl⟩
        rw [hith]
        refine JO.pur rfl rfl rfl (Pur.move rfl) ?_
        refine JO.pur rfl rfl rfl (Pur.extract rfl rfl) ?_
        refine JO.setv (u' := .slice a47 y.length c47) 48 rfl rfl ?_
        refine JO.pur rfl rfl rfl (Pur.extract rfl rfl) ?_
        refine JO.pur rfl rfl rfl (Pur.assign rfl) ?_
        refine JO.pur rfl rfl rfl (Pur.assign rfl) ?_
        refine JO.nil ?_
        refine J.fact (fun h s => slIn_some (E := intE) (a := a47) (xs := y) (by omega) s) fun hne47 => ?_
        have hnl : a47 = none → y.length = 0 ∧ c47 = 0 := fun e => absurd e hne47
        refine J.mask0 (n := 8) [5, 7] rfl Try.mixed rfl (by kernel_rfl) ?_
        refine JM.take 0 (fun _ h => h) rfl (by kernel_rfl) rfl rfl rfl (m' := 1) rfl (Pur.fieldAddr rfl) ?_
        refine JM.take 1 (fun _ h => h) rfl (by kernel_rfl) rfl rfl rfl (m' := 3) rfl (Pur.load rfl (CellIn.blk rfl)) ?_
        refine JM.take 2 (fun _ h => h) rfl (by kernel_rfl) rfl rfl rfl (m' := 7) rfl (Pur.move rfl) ?_
        refine JM.one (i := 3) (by kernel_rfl) ?_
        refine JMi.eff rfl rfl rfl rfl (m' := 15) rfl (Eff.call rfl (copied_ok (x := y) rfl (by omega) hnl)) ?_
        rintro _ _ ⟨a53, c53, rfl, rfl⟩
        refine ⟨.inr (fun _ h => h.tail), ?_⟩
        refine JM.one (i := 4) (by kernel_rfl) ?_
        refine JMi.eff rfl rfl rfl rfl (m' := 31) rfl (Eff.buildSlice hE [⟨a53, y.length, c53⟩] rfl rfl rfl rfl rfl rfl rfl) ?_
        rintro _ _ ⟨b54, rfl, -, rfl⟩
        refine ⟨.inr (fun _ h => h.tail.tail), ?_⟩
        refine JM.one (i := 5) (by kernel_rfl) ?_
        refine JMi.eff rfl rfl rfl rfl (m' := 63) rfl (Eff.append rfl rfl rfl rfl (by first | rfl | omega | (simp; done) | (simp; omega)) (by first | rfl | omega | (simp; done) | (simp; omega)) (by decide) (by simp; omega) (by simp; omega) (fun h => by cases h)) ?_
        rintro _ _ ⟨a55, c55, rfl, rfl⟩
        refine ⟨.inl (by simp), ?_⟩
        refine JM.takeF 6 (.inl (by kernel_rfl)) rfl (by kernel_rfl) rfl rfl rfl (m' := 127) rfl (Pur.fieldAddr rfl) ?_
        refine JM.one (i := 7) (by kernel_rfl) ?_
        refine JMi.effN rfl rfl rfl (m' := 255) rfl (Eff.storeB rfl rfl rfl (.tail .head)) ?_
        rintro _ _ ⟨rfl, rfl⟩
        refine ⟨.inl (by simp), ?_⟩
        refine JM.done rfl ?_
        refine J.inBlock ?_
        refine J.region rfl ?_
        refine JO.pur rfl rfl rfl (Pur.move rfl) ?_
        refine JO.pur rfl rfl rfl (Pur.add rfl rfl (wr64 (by omega))) ?_
        refine JO.pur rfl rfl rfl (Pur.assign rfl) ?_
        refine JO.nil ?_
        exact J.weaken (.cons rfl (congrArg (Value.int .i64) (by first | rfl | (dsimp only; omega))) (.cons rfl rfl (.cons rfl rfl (.cons rfl rfl (.cons rfl rfl (.cons rfl rfl .nil)))))) (fun h s => by have s2 := snoc_row (E := intE) (a := a53) (n := y.length) (cap := c53) (xs := y) (hs := hs0) (xss := madeK rs ts j) rfl s; dsimp only; rw [hst]; simp only [List.length_append, List.length_cons, List.length_nil, hh0] at s2 ⊢; exact SubC.out h s2) (ihj (j + 1, a55, c55, hs0 ++ [⟨a53, y.length, c53⟩]) ⟨by dsimp only; omega, by dsimp only; rw [hst]; simp [hh0]⟩ (by dsimp only; omega))
      · try simp only [decide_eq_true_eq, decide_eq_false_iff_not, Bool.not_eq_true', Bool.not_eq_false', Bool.and_eq_true, Bool.or_eq_true, Bool.and_eq_false_iff, Bool.or_eq_false_iff, Option.isNone_some, Option.isSome_some, Option.isNone_none, Option.isSome_none, Int.not_lt, Int.not_le, beq_iff_eq, beq_eq_false_iff_ne, bne_iff_ne, ne_eq, Bool.not_not, Decidable.not_not] at h43
        have hst := madeK_no (rs := rs) h43
        refine J.condF rfl rfl ?_
        refine J.skip rfl ?_
        refine J.inBlock ?_
        refine J.region rfl ?_
        refine JO.pur rfl rfl rfl (Pur.move rfl) ?_
        refine JO.pur rfl rfl rfl (Pur.add rfl rfl (wr64 (by omega))) ?_
        refine JO.pur rfl rfl rfl (Pur.assign rfl) ?_
        refine JO.nil ?_
        exact J.weaken (.cons rfl (congrArg (Value.int .i64) (by first | rfl | (dsimp only; omega))) (.cons rfl rfl (.cons rfl rfl (.cons rfl rfl (.cons rfl rfl (.cons rfl rfl .nil)))))) (fun h s => by dsimp only; rw [hst]; exact SubC.out h s) (ihj (j + 1, a0, c0, hs0) ⟨by dsimp only; omega, by dsimp only; rw [hst]; exact hh0⟩ (by dsimp only; omega))
    · try simp only [decide_eq_true_eq, decide_eq_false_iff_not, Bool.not_eq_true', Bool.not_eq_false', Bool.and_eq_true, Bool.or_eq_true, Bool.and_eq_false_iff, Bool.or_eq_false_iff, Option.isNone_some, Option.isSome_some, Option.isNone_none, Option.isSome_none, Int.not_lt, Int.not_le, beq_iff_eq, beq_eq_false_iff_ne, bne_iff_ne, ne_eq, Bool.not_not, Decidable.not_not] at h37
      have hje : j = cntD rs := by omega
      refine J.condF rfl rfl ?_
      refine J.exit rfl rfl ?_
      refine J.seq rfl ?_
      refine J.region rfl ?_
      refine JO.pur rfl rfl rfl (Pur.loadA rfl rfl rfl CellsIn.blk) ?_
      refine JO.effN rfl rfl (Eff.storeBA (cs' := [_, _]) rfl rfl (by rfl) (by rfl) (by rfl)) ?_
      rintro _ _ ⟨rfl, rfl⟩
      refine JO.nil ?_
      refine J.retC rfl (.cell rfl (ld_agg rfl CellsIn.blk) .nil) ?_
      refine ⟨_, _, ⟨a14, c14, a0, c0, hs0, rfl, rfl⟩, by rw [← madeK_all, ← hje]; rfl, fun h s => ?_⟩
      rw [← madeK_all, ← hje]
      exact SubC.out h s

end Go.Proofs.Ytnhippfllgnngaa

/- The text SJ3. -/
set_option linter.unusedVariables false
set_option linter.unusedSimpArgs false
set_option maxRecDepth 10000
namespace Go.Proofs.Ytnhippfllgnngaa
open Go Go.KK Dm

theorem eqRg (x y : Rg) (w : World) : (Op.equal 93 (.agg (rgE.enc x).toArray) (.agg (rgE.enc y).toArray)).run Try.prog w = .ok (decide (x = y)) w := by
  have hu := run_underlying (P := Try.prog) Try.underlying93 w
  have hi : (sizeOf 3).run Try.prog w = .ok 1 w := run_sizeOf_of (by kernel_rfl)
  have hs := Scl.run (P := Try.prog) (t := 3) (w := w) (by kernel_rfl)
  have he := fun a b => run_equalIn_int (P := Try.prog) w 9998 3 .i64 .i64 a b Try.underlying3
  have hst : Try.prog.stoodInHeld 93 = false := by kernel_rfl
  obtain ⟨a, b, c⟩ := x
  obtain ⟨a', b', c'⟩ := y
  unfold Op.equal
  rw [show Op.maxDepth = 9999 + 1 from rfl, Op.equalIn.eq_def]
  simp only [rgE, Sem.run_bind, hu, hi, Result.andThen_ok]
  simp [part, hs, he, hst, go_sem]
  by_cases h1 : a = a' <;> by_cases h2 : b = b' <;> by_cases h3 : c = c' <;> simp [h1, h2, h3]
instance : EqE Try.prog 93 rgE := ⟨by kernel_rfl, eqRg⟩
theorem asc_unique {a b : List Nat} (ha : a.Pairwise (· < ·)) (hb : b.Pairwise (· < ·)) (hm : ∀ n, n ∈ a ↔ n ∈ b) : a = b := by
  have na : a.Nodup := ha.imp fun h => by omega
  have nb : b.Nodup := hb.imp fun h => by omega
  have hp := (List.perm_ext_iff_of_nodup na nb).2 hm
  exact hp.eq_of_pairwise (le := fun x y => x < y) (fun x y _ _ h1 h2 => absurd h1 (by omega)) ha hb
/-- The indexes whose places are ascending are what is made of these. -/
theorem made_of {rs : List Rg} (h : okD rs) {ys : List (List Int)} (hs : ∀ y ∈ ys, (plD rs y).isSome = true) (ha : ys.Pairwise fun x y => atS rs x < atS rs y) : madeL rs (ys.map (atS rs)) = ys := by
  have hat : ∀ y ∈ ys, ((plD rs y).getD 0 < cntD rs) ∧ ixD rs ((plD rs y).getD 0) = y := fun y hy => by
    obtain ⟨n, hn⟩ := Option.isSome_iff_exists.1 (hs y hy)
    have h1 := plD_lt h.2.2.1 hn
    have h2 := (plD_iff h.2.2.1).1 hn
    rw [hn]
    refine ⟨h1, ?_⟩
    have := ixD_get h1
    rw [h2] at this
    exact (Option.some.inj this).symm
  have e1 : ys = (ys.map fun y => (plD rs y).getD 0).map (ixD rs) := by
    rw [List.map_map]
    conv => lhs; rw [← List.map_id ys]
    exact List.map_congr_left fun y hy => (hat y hy).2.symm
  unfold madeL
  conv => rhs; rw [e1]
  refine congrArg (List.map (ixD rs)) (asc_unique (List.Pairwise.filter _ List.pairwise_lt_range) ?_ fun n => ?_)
  · rw [List.pairwise_map]
    exact ha.imp fun h => by unfold atS at h; omega
  · simp only [List.mem_filter, List.mem_range, decide_eq_true_eq, List.mem_map]
    constructor
    · rintro ⟨_, y, hy, e⟩
      exact ⟨y, hy, by unfold atS at e; omega⟩
    · rintro ⟨y, hy, e⟩
      exact ⟨by rw [← e]; exact (hat y hy).1, y, hy, by unfold atS; omega⟩
theorem okS_pw {rs : List Rg} {xss : List (List Int)} (h : okS rs xss) : xss.Pairwise fun x y => atS rs x < atS rs y := by
  rw [List.pairwise_iff_getElem]
  intro i j hi hj hij
  have := okS_asc h j i hij hj
  rwa [List.getD_eq_getElem?_getD, List.getD_eq_getElem?_getD, List.getElem?_eq_getElem hi, List.getElem?_eq_getElem hj] at this
theorem made_filter {rs : List Rg} {xss : List (List Int)} (h : okS rs xss) (p : List Int → Bool) : madeL rs ((xss.filter p).map (atS rs)) = xss.filter p :=
  made_of h.1 (fun y hy => okS_some h (List.mem_filter.1 hy).1) ((okS_pw h).filter _)
theorem equalS_ok {L : List Asn} {a b la lb : Option Addr} {n cap m cq ln lc lm lq : Nat} {rs : List Rg} {hs hs2 : List Hdr} {xss : List (List Int)} [SlIn rgE L a rs] [SlIn rgE L b rs] [i1 : SlIn hE L la hs] [r1 : RowsR intE L hs xss] [i2 : SlIn hE L lb hs2] [r2 : RowsR intE L hs2 xss] (hn : n = rs.length) (hm : m = rs.length) (hl : ln = xss.length) (hl2 : lm = xss.length) (hrb : rs.length ≤ 1000000) (hxb : xss.length ≤ 1000000) (hrow : ∀ x ∈ xss, x.length ≤ 1000000) :
    CallS Try.prog 31 [.agg #[.slice a n cap, .slice la ln lc], .agg #[.slice b m cq, .slice lb lm lq]].toArray L (fun v M => v = .bool true ∧ M = L) := by
  subst hn
  subst hm
  subst hl
  subst hl2
  refine CallS.fact (fun h s => RowsR.len (E := intE) (hs := hs) (xss := xss) s) fun hnn => ?_
  have hhl : hs.length = xss.length := rows_len hnn
  refine CallS.fact (fun h s => RowsR.len (E := intE) (hs := hs2) (xss := xss) s) fun hnn2 => ?_
  have hhl2 : hs2.length = xss.length := rows_len hnn2
  refine CallS.ent ?_
  refine CallS.enter Try.func31 rfl rfl rfl rfl rfl ?_
  refine J.seq rfl ?_
  refine J.region rfl ?_
  refine JO.eff rfl rfl rfl (Eff.box (cs := [_, _]) rfl rfl) ?_
  rintro _ _ ⟨b2, rfl, rfl⟩
  refine JO.eff rfl rfl rfl (Eff.box (cs := [_, _]) rfl rfl) ?_
  rintro _ _ ⟨b3, rfl, rfl⟩
  refine JO.pur rfl rfl rfl (Pur.assign rfl) ?_
  refine JO.nil ?_
  refine J.seq rfl ?_
  refine J.seq rfl ?_
  refine J.region rfl ?_
  refine JO.pur rfl rfl rfl (Pur.fieldAddr rfl) ?_
  refine JO.pur rfl rfl rfl (Pur.fieldAddr rfl) ?_
  refine JO.pur rfl rfl rfl (Pur.load rfl (CellIn.blk rfl)) ?_
  refine JO.pur rfl rfl rfl (Pur.len rfl) ?_
  refine JO.pur rfl rfl rfl (Pur.fieldAddr rfl) ?_
  refine JO.pur rfl rfl rfl (Pur.fieldAddr rfl) ?_
  refine JO.pur rfl rfl rfl (Pur.load rfl (CellIn.blk rfl)) ?_
  refine JO.pur rfl rfl rfl (Pur.len rfl) ?_
  refine JO.pur rfl rfl rfl (Pur.neqI rfl rfl) ?_
  refine JO.pur rfl rfl rfl (Pur.move rfl) ?_
  refine JO.setv (u' := .bool false) 16 rfl (congrArg Value.bool (decide_eq_false (fun e => e rfl))) ?_
  refine JO.pur rfl rfl rfl (Pur.fieldAddr rfl) ?_
  refine JO.pur rfl rfl rfl (Pur.load rfl (CellIn.blk rfl)) ?_
  refine JO.pur rfl rfl rfl (Pur.len rfl) ?_
  refine JO.pur rfl rfl rfl (Pur.fieldAddr rfl) ?_
  refine JO.pur rfl rfl rfl (Pur.load rfl (CellIn.blk rfl)) ?_
  refine JO.pur rfl rfl rfl (Pur.len rfl) ?_
  refine JO.pur rfl rfl rfl (Pur.neqI rfl rfl) ?_
  refine JO.pur rfl rfl rfl (Pur.pickF rfl rfl) ?_
  refine JO.nil ?_
  refine J.setv (u' := .bool false) 24 rfl (congrArg Value.bool (decide_eq_false (fun e => e rfl))) ?_
  refine J.condF rfl rfl ?_
  refine J.skip rfl ?_
  refine J.seq rfl ?_
  refine J.seq rfl ?_
  refine J.region rfl ?_
  refine JO.pur rfl rfl rfl (Pur.assign rfl) ?_
  refine JO.nil ?_
  refine J.block rfl ?_
  refine J.loopF (ι := Nat) (fun q => q ≤ rs.length) (fun q => [(5, .int .i64 (q : Int))]) [(2, _), (3, _)] (fun q => blk b2 (.cells #[.slice a rs.length cap, .slice la xss.length lc] 27) :: blk b3 (.cells #[.slice b rs.length cq, .slice lb xss.length lq] 27) :: L) (fun q => rs.length - q) 0 rfl (.cons rfl rfl (.cons rfl rfl .nil)) (.cons rfl rfl .nil) (by first | exact fun _ h => h | exact SubC.out | (dsimp only; exact SubC.out)) (Nat.zero_le _) ?_
  rintro k hk ihk
  try dsimp only
  refine J.seq rfl ?_
  refine J.seq rfl ?_
  refine J.region rfl ?_
  refine JO.pur rfl rfl rfl (Pur.move rfl) ?_
  refine JO.pur rfl rfl rfl (Pur.fieldAddr rfl) ?_
  refine JO.pur rfl rfl rfl (Pur.fieldAddr rfl) ?_
  refine JO.pur rfl rfl rfl (Pur.load rfl (CellIn.blk rfl)) ?_
  refine JO.pur rfl rfl rfl (Pur.len rfl) ?_
  refine JO.pur rfl rfl rfl (Pur.lss rfl rfl) ?_
  refine JO.nil ?_
  refine J.splitB 30 rfl (fun h30 => ?_) (fun h30 => ?_)
  · try simp only [decide_eq_true_eq, decide_eq_false_iff_not, Bool.not_eq_true', Bool.not_eq_false', Bool.and_eq_true, Bool.or_eq_true, Bool.and_eq_false_iff, Bool.or_eq_false_iff, Option.isNone_some, Option.isSome_some, Option.isNone_none, Option.isSome_none, Int.not_lt, Int.not_le, beq_iff_eq, beq_eq_false_iff_ne, bne_iff_ne, ne_eq, Bool.not_not, Decidable.not_not] at h30
    have hkl : k < rs.length := by omega
    obtain ⟨r, hr⟩ : ∃ r, rs[k]? = some r := ⟨_, List.getElem?_eq_getElem hkl⟩
    refine J.condT rfl rfl ?_
    refine J.skip rfl ?_
    refine J.seq rfl ?_
    refine J.block rfl ?_
    refine J.seq rfl ?_
    refine J.quiet rfl Try.mixed (by kernel_rfl) ?_
    refine JQ.pur rfl rfl rfl (Pur.fieldAddr rfl) ?_
    refine JQ.pur rfl rfl rfl (Pur.fieldAddr rfl) ?_
    refine JQ.pur rfl rfl rfl (Pur.load rfl (CellIn.blk rfl)) ?_
    refine JQ.pur rfl rfl rfl (Pur.move rfl) ?_
    refine JQ.pur rfl rfl rfl (Pur.idx rfl rfl rfl (by first | rfl | (simp; done) | omega) rfl (by omega)) ?_
    refine JQ.pur rfl rfl rfl (Pur.loadA rfl rfl rfl (CellsIn.el rfl hr)) ?_
    refine JQ.pur rfl rfl rfl (Pur.fieldAddr rfl) ?_
    refine JQ.pur rfl rfl rfl (Pur.fieldAddr rfl) ?_
    refine JQ.pur rfl rfl rfl (Pur.load rfl (CellIn.blk rfl)) ?_
    refine JQ.pur rfl rfl rfl (Pur.move rfl) ?_
    refine JQ.pur rfl rfl rfl (Pur.idx rfl rfl rfl (by first | rfl | (simp; done) | omega) rfl (by omega)) ?_
    refine JQ.pur rfl rfl rfl (Pur.loadA rfl rfl rfl (CellsIn.el rfl hr)) ?_
    refine JQ.pur rfl rfl rfl (Pur.neqE (E := rgE) (a := r) (b := r) rfl rfl) ?_
    refine JQ.nil ?_
    refine J.setv (u' := .bool false) 45 rfl (congrArg Value.bool (decide_eq_false (fun e => e rfl))) ?_
    refine J.condF rfl rfl ?_
    refine J.skip rfl ?_
    refine J.inBlock ?_
    refine J.region rfl ?_
    refine JO.pur rfl rfl rfl (Pur.move rfl) ?_
    refine JO.pur rfl rfl rfl (Pur.add rfl rfl (wr64 (by omega))) ?_
    refine JO.pur rfl rfl rfl (Pur.assign rfl) ?_
    refine JO.nil ?_
    exact J.weaken (.cons rfl (congrArg (Value.int .i64) (by first | rfl | (dsimp only; omega))) (.cons rfl rfl (.cons rfl rfl .nil))) (by first | exact fun _ h => h | exact SubC.out | (dsimp only; exact SubC.out)) (ihk (k + 1) (by omega) (by omega))
  · try simp only [decide_eq_true_eq, decide_eq_false_iff_not, Bool.not_eq_true', Bool.not_eq_false', Bool.and_eq_true, Bool.or_eq_true, Bool.and_eq_false_iff, Bool.or_eq_false_iff, Option.isNone_some, Option.isSome_some, Option.isNone_none, Option.isSome_none, Int.not_lt, Int.not_le, beq_iff_eq, beq_eq_false_iff_ne, bne_iff_ne, ne_eq, Bool.not_not, Decidable.not_not] at h30
    refine J.condF rfl rfl ?_
    refine J.exit rfl rfl ?_
    refine J.seq rfl ?_
    refine J.seq rfl ?_
    refine J.region rfl ?_
    refine JO.pur rfl rfl rfl (Pur.assign rfl) ?_
    refine JO.nil ?_
    refine J.block rfl ?_
    refine J.loopF (ι := Nat) (fun q => q ≤ xss.length) (fun q => [(6, .int .i64 (q : Int))]) [(2, _), (3, _)] (fun q => blk b2 (.cells #[.slice a rs.length cap, .slice la xss.length lc] 27) :: blk b3 (.cells #[.slice b rs.length cq, .slice lb xss.length lq] 27) :: L) (fun q => xss.length - q) 0 rfl (.cons rfl rfl (.cons rfl rfl .nil)) (.cons rfl rfl .nil) (by first | exact fun _ h => h | exact SubC.out | (dsimp only; exact SubC.out)) (Nat.zero_le _) ?_
    rintro j hj ihj
    try dsimp only
    refine J.seq rfl ?_
    refine J.seq rfl ?_
    refine J.region rfl ?_
    refine JO.pur rfl rfl rfl (Pur.move rfl) ?_
    refine JO.pur rfl rfl rfl (Pur.fieldAddr rfl) ?_
    refine JO.pur rfl rfl rfl (Pur.load rfl (CellIn.blk rfl)) ?_
    refine JO.pur rfl rfl rfl (Pur.len rfl) ?_
    refine JO.pur rfl rfl rfl (Pur.lss rfl rfl) ?_
    refine JO.nil ?_
    refine J.splitB 50 rfl (fun h50 => ?_) (fun h50 => ?_)
    · try simp only [decide_eq_true_eq, decide_eq_false_iff_not, Bool.not_eq_true', Bool.not_eq_false', Bool.and_eq_true, Bool.or_eq_true, Bool.and_eq_false_iff, Bool.or_eq_false_iff, Option.isNone_some, Option.isSome_some, Option.isNone_none, Option.isSome_none, Int.not_lt, Int.not_le, beq_iff_eq, beq_eq_false_iff_ne, bne_iff_ne, ne_eq, Bool.not_not, Decidable.not_not] at h50
      have hjl : j < xss.length := by omega
      obtain ⟨x, hX⟩ : ∃ x, xss[j]? = some x := ⟨_, List.getElem?_eq_getElem hjl⟩
      obtain ⟨hd, hH⟩ : ∃ hd, hs[j]? = some hd := ⟨_, List.getElem?_eq_getElem (by omega)⟩
      obtain ⟨hd2, hH2⟩ : ∃ hd, hs2[j]? = some hd := ⟨_, List.getElem?_eq_getElem (by omega)⟩
      have hdn := hdr_n hnn hH hX
      have hdn2 := hdr_n hnn2 hH2 hX
      have hxl := hrow x (List.mem_of_getElem? hX)
      refine J.condT rfl rfl ?_
      refine J.skip rfl ?_
      refine J.seq rfl ?_
      refine J.block rfl ?_
      refine J.seq rfl ?_
      refine J.mask0 (n := 12) [] rfl Try.mixed rfl (by kernel_rfl) ?_
      refine JM.take 0 (fun _ h => h) rfl (by kernel_rfl) rfl rfl rfl (m' := 1) rfl (Pur.fieldAddr rfl) ?_
      refine JM.take 1 (fun _ h => h) rfl (by kernel_rfl) rfl rfl rfl (m' := 3) rfl (Pur.load rfl (CellIn.blk rfl)) ?_
      refine JM.take 2 (fun _ h => h) rfl (by kernel_rfl) rfl rfl rfl (m' := 7) rfl (Pur.move rfl) ?_
      refine JM.take 3 (fun _ h => h) rfl (by kernel_rfl) rfl rfl rfl (m' := 15) rfl (Pur.idx rfl rfl rfl (by first | rfl | (simp; done) | omega) rfl (by omega)) ?_
      refine JM.take 4 (fun _ h => h) rfl (by kernel_rfl) rfl rfl rfl (m' := 31) rfl (Pur.load rfl (CellIn.el0 rfl hH rfl)) ?_
      refine JM.setv (u' := .slice hd.a x.length hd.cap) 57 rfl (by rw [← hdn]) ?_
      refine JM.take 5 (fun _ h => h) rfl (by kernel_rfl) rfl rfl rfl (m' := 63) rfl (Pur.fieldAddr rfl) ?_
      refine JM.take 6 (fun _ h => h) rfl (by kernel_rfl) rfl rfl rfl (m' := 127) rfl (Pur.load rfl (CellIn.blk rfl)) ?_
      refine JM.take 7 (fun _ h => h) rfl (by kernel_rfl) rfl rfl rfl (m' := 255) rfl (Pur.move rfl) ?_
      refine JM.take 8 (fun _ h => h) rfl (by kernel_rfl) rfl rfl rfl (m' := 511) rfl (Pur.idx rfl rfl rfl (by first | rfl | (simp; done) | omega) rfl (by omega)) ?_
      refine JM.take 9 (fun _ h => h) rfl (by kernel_rfl) rfl rfl rfl (m' := 1023) rfl (Pur.load rfl (CellIn.el0 rfl hH2 rfl)) ?_
      refine JM.setv (u' := .slice hd2.a x.length hd2.cap) 62 rfl (by rw [← hdn2]) ?_
      refine JM.one (i := 10) (by kernel_rfl) ?_
      refine JMi.effR (fun _ h => h) rfl rfl rfl rfl (m' := 2047) rfl (Eff.call rfl (@same5_ok _ _ _ _ _ _ _ x x (RowsR.row (E := intE) (hs := hs) inferInstance hH hX) (RowsR.row (E := intE) (hs := hs2) inferInstance hH2 hX) rfl rfl hxl)) ?_
      refine JM.setv (u' := .bool true) 63 rfl (congrArg Value.bool (decide_eq_true rfl)) ?_
      refine JM.take 11 (fun _ h => h) rfl (by kernel_rfl) rfl rfl rfl (m' := 4095) rfl (Pur.not rfl) ?_
      refine JM.done rfl ?_
      refine J.condF rfl rfl ?_
      refine J.skip rfl ?_
      refine J.inBlock ?_
      refine J.region rfl ?_
      refine JO.pur rfl rfl rfl (Pur.move rfl) ?_
      refine JO.pur rfl rfl rfl (Pur.add rfl rfl (wr64 (by omega))) ?_
      refine JO.pur rfl rfl rfl (Pur.assign rfl) ?_
      refine JO.nil ?_
      exact J.weaken (.cons rfl (congrArg (Value.int .i64) (by first | rfl | (dsimp only; omega))) (.cons rfl rfl (.cons rfl rfl .nil))) (by first | exact fun _ h => h | exact SubC.out | (dsimp only; exact SubC.out)) (ihj (j + 1) (by omega) (by omega))
    · try simp only [decide_eq_true_eq, decide_eq_false_iff_not, Bool.not_eq_true', Bool.not_eq_false', Bool.and_eq_true, Bool.or_eq_true, Bool.and_eq_false_iff, Bool.or_eq_false_iff, Option.isNone_some, Option.isSome_some, Option.isNone_none, Option.isSome_none, Int.not_lt, Int.not_le, beq_iff_eq, beq_eq_false_iff_ne, bne_iff_ne, ne_eq, Bool.not_not, Decidable.not_not] at h50
      refine J.condF rfl rfl ?_
      refine J.exit rfl rfl ?_
      refine J.seq rfl ?_
      refine J.region rfl ?_
      refine JO.pur rfl rfl rfl (Pur.assign rfl) ?_
      refine JO.nil ?_
      refine J.ret rfl rfl ?_
      refine ⟨_, _, ⟨rfl, rfl⟩, rfl, SubC.out⟩

end Go.Proofs.Ytnhippfllgnngaa

/- The text SpPlainB. -/
set_option linter.unusedVariables false
set_option linter.unusedSimpArgs false
namespace Go.Proofs.Ytnhippfllgnngaa
open Go Go.KK Dm
theorem perm_lift {α β : Type} {f : α → β} {ys : List β} {gs : List α} (h : ys.Perm (gs.map f)) : ∃ gs2 : List α, gs2.Perm gs ∧ gs2.map f = ys := by
  generalize e : gs.map f = zs at h
  induction h generalizing gs with
  | nil => exact ⟨[], by rw [List.map_eq_nil_iff.1 e], rfl⟩
  | cons x h ih =>
    obtain ⟨g, l, rfl, rfl, e2⟩ := List.map_eq_cons_iff.1 e
    obtain ⟨l2, p, e3⟩ := ih e2
    exact ⟨g :: l2, p.cons g, by rw [List.map_cons, e3]⟩
  | swap x y l =>
    obtain ⟨g, l1, rfl, rfl, e2⟩ := List.map_eq_cons_iff.1 e
    obtain ⟨g2, l2, rfl, rfl, e3⟩ := List.map_eq_cons_iff.1 e2
    exact ⟨g2 :: g :: l2, .swap _ _ _, by rw [List.map_cons, List.map_cons, e3]⟩
  | trans h1 h2 ih1 ih2 =>
    obtain ⟨g2, p2, e2⟩ := ih2 e
    obtain ⟨g1, p1, e1⟩ := ih1 e2
    exact ⟨g1, p1.trans p2, e1⟩
section
variable {α : Type} {E : Enc α}
theorem zip_lens : ∀ {hs : List Hdr} {xss : List (List α)}, hs.map (·.n) = xss.map (·.length) ↔ hs.length = xss.length ∧ ∀ p ∈ hs.zip xss, p.1.n = p.2.length
  | [], [] => by simp
  | [], x :: xs => by simp
  | h :: hs, [] => by simp
  | h :: hs, x :: xs => by
    have ih := zip_lens (hs := hs) (xss := xs)
    simp only [List.map_cons, List.cons.injEq, ih, List.length_cons, List.zip_cons_cons, List.mem_cons, forall_eq_or_imp, Nat.add_right_cancel_iff]
    constructor
    · rintro ⟨a, b, c⟩; exact ⟨b, a, c⟩
    · rintro ⟨a, b, c⟩; exact ⟨b, a, c⟩
theorem rows_perm {hs hs2 : List Hdr} {xss yss : List (List α)} {L : List Asn} {h : Hp} (hl : hs2.length = yss.length) (p : (hs2.zip yss).Perm (hs.zip xss)) (s : Sat h (rows E hs xss :: L)) : Sat h (rows E hs2 yss :: L) := by
  obtain ⟨e, s⟩ := rows_iff.1 s
  refine rows_iff.2 ⟨zip_lens.2 ⟨hl, fun q hq => (zip_lens.1 e).2 q (p.mem_iff.1 hq)⟩, s.perm ?_⟩
  exact ((p.symm.map _).append_right L)
theorem sat_sub {L M : List Asn} (h : M.Sublist L) : ∀ {k : Hp}, Sat k L → Sat k M := by
  induction h with
  | slnil => exact fun s => s
  | cons a h ih => exact fun s => ih s.tail
  | cons_cons a h ih =>
    intro k s
    exact s.cons_imp (fun _ g => g) (fun _ g => ih g)
theorem rows_sub {hs hs2 : List Hdr} {xss yss : List (List α)} {L : List Asn} {h : Hp} (hl : hs2.length = yss.length) (p : (hs2.zip yss).Sublist (hs.zip xss)) (s : Sat h (rows E hs xss :: L)) : Sat h (rows E hs2 yss :: L) := by
  obtain ⟨e, s⟩ := rows_iff.1 s
  refine rows_iff.2 ⟨zip_lens.2 ⟨hl, fun q hq => (zip_lens.1 e).2 q (p.subset hq)⟩, sat_sub ?_ s⟩
  exact (p.map _).append (List.Sublist.refl L)
end
section
variable {ε : Type} (ky : ε → Int)
/-- The first ones, of each key only the first. -/
def cptN (es : List ε) : Nat → List ε
  | 0 => []
  | j + 1 => match es[j]? with
    | none => cptN es j
    | some e => if 1 ≤ j ∧ ky e = kA ky es (j - 1) then cptN es j else cptN es j ++ [e]
variable {ky}
theorem cptN_yes {es : List ε} {j : Nat} {e : ε} (h : es[j]? = some e) (h1 : 1 ≤ j) (h2 : ky e = kA ky es (j - 1)) : cptN ky es (j + 1) = cptN ky es j := by
  simp only [cptN, h]; rw [if_pos ⟨h1, h2⟩]
theorem cptN_no {es : List ε} {j : Nat} {e : ε} (h : es[j]? = some e) (h2 : ¬ (1 ≤ j ∧ ky e = kA ky es (j - 1))) : cptN ky es (j + 1) = cptN ky es j ++ [e] := by
  simp only [cptN, h]; rw [if_neg h2]
theorem cptN_sub {es : List ε} : ∀ j, j ≤ es.length → (cptN ky es j).Sublist (es.take j)
  | 0, _ => by simp [cptN]
  | j + 1, hj => by
    have ih := cptN_sub (es := es) j (by omega)
    have he : es[j]? = some es[j] := List.getElem?_eq_getElem hj
    have ht : es.take (j + 1) = es.take j ++ [es[j]] := List.take_succ_eq_append_getElem hj
    by_cases h : 1 ≤ j ∧ ky es[j] = kA ky es (j - 1)
    · rw [cptN_yes he h.1 h.2, ht]; exact ih.trans (List.sublist_append_left _ _)
    · rw [cptN_no he h, ht]; exact ih.append (List.Sublist.refl _)
theorem cptN_mem {es : List ε} (hs : srtd ky es) : ∀ j, j ≤ es.length → ∀ i x, i < j → es[i]? = some x → ∃ c ∈ cptN ky es j, ky c = ky x
  | 0, _, i, x, hi, _ => by omega
  | j + 1, hj, i, x, hi, hx => by
    have he : es[j]? = some es[j] := List.getElem?_eq_getElem hj
    by_cases h : 1 ≤ j ∧ ky es[j] = kA ky es (j - 1)
    · rw [cptN_yes he h.1 h.2]
      by_cases e : i = j
      · subst e
        rw [he] at hx
        have hx2 := Option.some.inj hx
        have h3 : es[i - 1]? = some es[i - 1] := List.getElem?_eq_getElem (by omega)
        obtain ⟨c, hc, e2⟩ := cptN_mem hs i (by omega) (i - 1) _ (by omega) h3
        exact ⟨c, hc, by rw [e2, ← hx2, h.2, kA_of h3]⟩
      · exact cptN_mem hs j (by omega) i x (by omega) hx
    · rw [cptN_no he h]
      by_cases e : i = j
      · subst e
        rw [he] at hx
        exact ⟨es[i], by simp, by rw [Option.some.inj hx]⟩
      · obtain ⟨c, hc, e2⟩ := cptN_mem hs j (by omega) i x (by omega) hx
        exact ⟨c, List.mem_append_left _ hc, e2⟩
theorem cptN_asc {es : List ε} (hs : srtd ky es) : ∀ j, j ≤ es.length → (cptN ky es j).Pairwise fun x y => ky x < ky y
  | 0, _ => by simp [cptN]
  | j + 1, hj => by
    have ih := cptN_asc hs j (by omega)
    have he : es[j]? = some es[j] := List.getElem?_eq_getElem hj
    by_cases h : 1 ≤ j ∧ ky es[j] = kA ky es (j - 1)
    · rw [cptN_yes he h.1 h.2]; exact ih
    · rw [cptN_no he h]
      refine List.pairwise_append.2 ⟨ih, List.pairwise_singleton _ _, fun a ha b hb => ?_⟩
      rw [List.mem_singleton.1 hb]
      have ha2 := (cptN_sub (ky := ky) j (by omega)).subset ha
      obtain ⟨i, hi, e⟩ := List.getElem_of_mem ha2
      rw [List.length_take] at hi
      rw [List.getElem_take] at e
      have h1 : 1 ≤ j := by omega
      have h3 : es[j - 1]? = some es[j - 1] := List.getElem?_eq_getElem (by omega)
      have h4 := get_srtd hs i (j - 1) a es[j - 1] (by omega) (by rw [← e]; exact List.getElem?_eq_getElem _) h3
      have h5 := get_srtd hs (j - 1) j es[j - 1] es[j] (by omega) h3 he
      have h6 : ky es[j] ≠ ky es[j - 1] := fun g => h ⟨h1, by rw [g, kA_of h3]⟩
      omega
end
theorem made_congr {rs : List Rg} {a b : List Int} (h : ∀ t, t ∈ a ↔ t ∈ b) : madeL rs a = madeL rs b := by
  unfold madeL; congr 1; apply List.filter_congr; intro i _; exact decide_eq_decide.2 (h _)
end Go.Proofs.Ytnhippfllgnngaa

/- The text SM4. -/
set_option linter.unusedVariables false
set_option linter.unusedSimpArgs false
set_option maxRecDepth 10000
namespace Go.Proofs.Ytnhippfllgnngaa
open Go Go.KK Dm

theorem zip_fst_at {rs : List Rg} : ∀ {es : List (Int × Hdr)} {xss : List (List Int)}, es.map (·.1) = xss.map (atS rs) → ∀ g ∈ es.zip xss, g.1.1 = atS rs g.2
  | [], _, _, g, hg => by simp at hg
  | e :: es, [], h, g, hg => by simp at h
  | e :: es, x :: xss, h, g, hg => by
    simp only [List.map_cons, List.cons.injEq] at h
    simp only [List.zip_cons_cons, List.mem_cons] at hg
    rcases hg with rfl | hg
    · exact h.1
    · exact zip_fst_at h.2 g hg
theorem zip_back {α β : Type} : ∀ (l : List (α × β)), (l.map (·.1)).zip (l.map (·.2)) = l
  | [] => rfl
  | x :: l => by rw [List.map_cons, List.map_cons, List.zip_cons_cons, zip_back l]
theorem fst_zip {α β : Type} : ∀ {l : List α} {m : List β}, l.length = m.length → (l.zip m).map (·.1) = l ∧ (l.zip m).map (·.2) = m
  | [], [], _ => ⟨rfl, rfl⟩
  | [], _ :: _, h => by simp at h
  | _ :: _, [], h => by simp at h
  | x :: l, y :: m, h => by
    obtain ⟨a, b⟩ := fst_zip (l := l) (m := m) (by simpa using h)
    rw [List.zip_cons_cons, List.map_cons, List.map_cons, a, b]; exact ⟨rfl, rfl⟩
theorem zip_map_snd {α β γ : Type} (f : α → γ) : ∀ (l : List α) (m : List β), (l.map f).zip m = (l.zip m).map fun g => (f g.1, g.2)
  | [], _ => rfl
  | _ :: _, [] => rfl
  | x :: l, y :: m => by simp only [List.map_cons, List.zip_cons_cons, zip_map_snd f l m]
theorem plc_sort {rs : List Rg} {es ys : List (Int × Hdr)} {xss : List (List Int)} (h : es.map (·.1) = xss.map (atS rs)) (p : ys.Perm es) : ∃ yss : List (List Int), yss.Perm xss ∧ ys.map (·.1) = yss.map (atS rs) ∧ ys.length = yss.length ∧ ((ys.map (·.2)).zip yss).Perm ((es.map (·.2)).zip xss) := by
  have hl : es.length = xss.length := by have := congrArg List.length h; simpa using this
  obtain ⟨e1, e2⟩ := fst_zip hl
  obtain ⟨gs, pg, eg⟩ := perm_lift (ys := ys) (f := fun g : (Int × Hdr) × List Int => g.1) (gs := es.zip xss) (by rw [e1]; exact p)
  refine ⟨gs.map (·.2), by have := pg.map (·.2); rwa [e2] at this, ?_, by rw [← eg]; simp, ?_⟩
  · rw [← eg, List.map_map, List.map_map]
    apply List.map_congr_left
    intro g hg
    exact zip_fst_at h g (pg.mem_iff.1 hg)
  · rw [zip_map_snd, zip_map_snd, ← eg, zip_back]
    exact pg.map _
theorem s_places {L : List Asn} {a la : Option Addr} {n cap ln lc : Nat} {rs : List Rg} {hs : List Hdr} {xss : List (List Int)} [SlIn rgE L a rs] [SlIn hE L la hs] [RowsR intE L hs xss] (hn : n = rs.length) (hl : ln = hs.length) (hxb : xss.length ≤ 1000000) :
    CallS Try.prog 112 [.agg #[.slice a n cap], .slice la ln lc].toArray L (fun v M => ∃ es yss a' c', v = .tuple #[.slice a' es.length c', .bool (plcV rs xss).2] ∧ M = sl enE a' c' es :: rows intE (es.map (·.2)) yss :: L ∧ ((plcV rs xss).2 = true → es.map (·.1) = yss.map (atS rs) ∧ yss.Perm xss ∧ srtd enK es)) := by
  subst hn
  subst hl
  refine CallS.fact (fun h s => RowsR.len (E := intE) (hs := hs) (xss := xss) s) fun hnn => ?_
  have hhl : hs.length = xss.length := rows_len hnn
  refine CallS.ent ?_
  refine CallS.enter Try.func112 rfl rfl rfl rfl rfl ?_
  refine J.seq rfl ?_
  refine J.region rfl ?_
  refine JO.eff rfl rfl rfl (Eff.box (cs := [_]) rfl rfl) ?_
  rintro _ _ ⟨b2, rfl, rfl⟩
  refine JO.pur rfl rfl rfl (Pur.assign rfl) ?_
  refine JO.pur rfl rfl rfl (Pur.assign rfl) ?_
  refine JO.nil ?_
  refine J.seq rfl ?_
  refine J.region rfl ?_
  refine JO.pur rfl rfl rfl (Pur.assign rfl) ?_
  refine JO.nil ?_
  refine J.seq rfl ?_
  refine J.seq rfl ?_
  refine J.region rfl ?_
  refine JO.pur rfl rfl rfl (Pur.move rfl) ?_
  refine JO.pur rfl rfl rfl (Pur.len rfl) ?_
  refine JO.pur rfl rfl rfl (Pur.move rfl) ?_
  refine JO.nil ?_
  refine J.block rfl ?_
  refine J.loopF (ι := Nat × Option Addr × Nat × List (Int × Hdr)) (fun q => q.1 ≤ xss.length ∧ q.2.2.2.map (·.1) = (xss.take q.1).map (atS rs) ∧ ∀ j x, j < q.1 → xss[j]? = some x → (plV rs x).2 = 0) (fun q => [(6, .slice q.2.1 q.1 q.2.2.1), (13, .int .i64 (q.1 : Int))]) [(2, _), (11, _), (12, _)] (fun q => sl enE q.2.1 q.2.2.1 q.2.2.2 :: rows intE (q.2.2.2.map (·.2)) (xss.take (q.1)) :: blk b2 (.cells #[.slice a rs.length cap] 24) :: L) (fun q => xss.length - q.1) (0, none, 0, []) rfl (.cons rfl rfl (.cons rfl rfl (.cons rfl rfl .nil))) (.cons rfl rfl (.cons rfl rfl .nil)) (fun h s => by have s2 := sl_nil_new (E := enE) (rows_nil (E := intE) s); dsimp only; rw [List.take_zero, List.map_nil]; exact SubC.out (L := sl enE none 0 [] :: rows intE [] [] :: _) h s2) ⟨Nat.zero_le _, by simp, fun j x hj => absurd hj (Nat.not_lt_zero j)⟩ ?_
  rintro ⟨k, a6, c6, es⟩ ⟨hk, hes, hok⟩ ih0
  try dsimp only
  dsimp only at hk hes hok
  have hel : es.length = k := by have := congrArg List.length hes; rw [List.length_map, List.length_map, List.length_take] at this; omega
  refine J.seq rfl ?_
  refine J.region rfl ?_
  refine JO.pur rfl rfl rfl (Pur.lss rfl rfl) ?_
  refine JO.nil ?_
  refine J.seq rfl ?_
  refine J.splitB 14 rfl (fun h14 => ?_) (fun h14 => ?_)
  · try simp only [decide_eq_true_eq, decide_eq_false_iff_not, Bool.not_eq_true', Bool.not_eq_false', Bool.and_eq_true, Bool.or_eq_true, Bool.and_eq_false_iff, Bool.or_eq_false_iff, Option.isNone_some, Option.isSome_some, Option.isNone_none, Option.isSome_none, Int.not_lt, Int.not_le, beq_iff_eq, beq_eq_false_iff_ne, bne_iff_ne, ne_eq, Bool.not_not, Decidable.not_not] at h14
    have hkl : k < xss.length := by omega
    obtain ⟨x, hX⟩ : ∃ x, xss[k]? = some x := ⟨_, List.getElem?_eq_getElem (by omega)⟩
    obtain ⟨hd, hH⟩ : ∃ hd, hs[k]? = some hd := ⟨_, List.getElem?_eq_getElem (by omega)⟩
    have hdn := hdr_n hnn hH hX
    have hxm := List.mem_of_getElem? hX
    have hxg : xss.getD k [] = x := getD_of' hX
    have htk : xss.take (k + 1) = xss.take k ++ [x] := take_get hX
    refine J.fact (fun h s => RowsR.fit (E := intE) (hs := hs) (xss := xss) s hH hX) fun hfit => ?_
    refine J.condT rfl rfl ?_
    refine J.skip rfl ?_
    refine J.seq rfl ?_
    refine J.block rfl ?_
    refine J.seq rfl ?_
    refine J.region rfl ?_
    refine JO.pur rfl rfl rfl (Pur.idx rfl rfl rfl (by first | rfl | (simp; done) | omega) rfl (by omega)) ?_
    refine JO.pur rfl rfl rfl (Pur.load rfl (CellIn.el0 rfl hH rfl)) ?_
    refine JO.setv (u' := .slice hd.a x.length hd.cap) 16 rfl (by rw [← hdn]) ?_
    refine JO.pur rfl rfl rfl (Pur.assign rfl) ?_
    refine JO.nil ?_
    refine J.seq rfl ?_
    refine J.region rfl ?_
    refine JO.pur rfl rfl rfl (Pur.loadA rfl rfl rfl CellsIn.blk) ?_
    refine JO.pur rfl rfl rfl (Pur.move rfl) ?_
    refine JO.effR rfl rfl rfl (Eff.call rfl (@d_Place _ _ _ _ _ _ _ rs x inferInstance (RowsR.row (E := intE) inferInstance hH hX) rfl rfl)) ?_
    refine JO.pur rfl rfl rfl (Pur.move rfl) ?_
    refine JO.pur rfl rfl rfl (Pur.extract rfl rfl) ?_
    refine JO.setv (u' := .int .i64 (plV rs x).1) 21 rfl rfl ?_
    refine JO.pur rfl rfl rfl (Pur.extract rfl rfl) ?_
    refine JO.setv (u' := .int .i64 (plV rs x).2) 22 rfl rfl ?_
    refine JO.pur rfl rfl rfl (Pur.assign rfl) ?_
    refine JO.pur rfl rfl rfl (Pur.assign rfl) ?_
    refine JO.nil ?_
    refine J.seq rfl ?_
    refine J.seq rfl ?_
    refine J.region rfl ?_
    refine JO.pur rfl rfl rfl (Pur.move rfl) ?_
    refine JO.pur rfl rfl rfl (Pur.neqI rfl rfl) ?_
    refine JO.nil ?_
    refine J.splitB 24 rfl (fun h24 => ?_) (fun h24 => ?_)
    · try simp only [decide_eq_true_eq, decide_eq_false_iff_not, Bool.not_eq_true', Bool.not_eq_false', Bool.and_eq_true, Bool.or_eq_true, Bool.and_eq_false_iff, Bool.or_eq_false_iff, Option.isNone_some, Option.isSome_some, Option.isNone_none, Option.isSome_none, Int.not_lt, Int.not_le, beq_iff_eq, beq_eq_false_iff_ne, bne_iff_ne, ne_eq, Bool.not_not, Decidable.not_not] at h24
      have hbad : (plV rs x).2 ≠ 0 := by simpa using h24
      refine J.condT rfl rfl ?_
      refine J.seq rfl ?_
      refine J.region rfl ?_
      refine JO.pur rfl rfl rfl (Pur.assign rfl) ?_
      refine JO.pur rfl rfl rfl (Pur.assign rfl) ?_
      refine JO.nil ?_
      refine J.ret rfl rfl ?_
      have hv : plcV rs xss = ([], false) := plcV_no (fun g => hbad (g x hxm))
      refine ⟨_, _, ⟨[], [], none, 0, by rw [hv]; rfl, rfl, fun g => by rw [hv] at g; cases g⟩, rfl, fun h s => ?_⟩
      exact sl_nil_new (rows_nil (SubC.out h s))
    · try simp only [decide_eq_true_eq, decide_eq_false_iff_not, Bool.not_eq_true', Bool.not_eq_false', Bool.and_eq_true, Bool.or_eq_true, Bool.and_eq_false_iff, Bool.or_eq_false_iff, Option.isNone_some, Option.isSome_some, Option.isNone_none, Option.isSome_none, Int.not_lt, Int.not_le, beq_iff_eq, beq_eq_false_iff_ne, bne_iff_ne, ne_eq, Bool.not_not, Decidable.not_not] at h24
      have hgd : (plV rs x).2 = 0 := by simpa using h24
      have hok2 : ∀ j y, j < k + 1 → xss[j]? = some y → (plV rs y).2 = 0 := fun j y hj hy => by
        rcases Nat.lt_or_ge j k with h | h
        · exact hok j y h hy
        · obtain rfl : j = k := by omega
          rw [hX] at hy; rw [← Option.some.inj hy]; exact hgd
      have hrok : okD rs := by
        by_cases hd' : okD rs
        · exact hd'
        · unfold plV at hgd; rw [if_pos hd'] at hgd; cases hgd
      have hxs := (plV_ok hrok x).1.1 hgd
      have hxl : x.length = rs.length := by unfold plD at hxs; by_cases e : x.length = rs.length; exact e; rw [if_neg e] at hxs; cases hxs
      have hr3 := hrok.2.1
      refine J.condF rfl rfl ?_
      refine J.skip rfl ?_
      have hpa : (plV rs x).1 = atS rs x := by rw [(plV_ok hrok x).2 hxs]
      rw [hpa]
      refine J.region rfl ?_
      refine JO.pur rfl rfl rfl (Pur.move rfl) ?_
      refine JO.pur rfl rfl rfl (Pur.move rfl) ?_
      refine JO.pur rfl rfl rfl (Pur.move rfl) ?_
      refine JO.eff rfl rfl rfl (Eff.call rfl (@cloneI _ _ _ _ x (RowsR.row (E := intE) inferInstance hH hX) rfl (by omega) (fun e => by have := hfit.1 e; rw [hdn] at this; exact this))) ?_
      rintro _ _ ⟨a28, c28, ⟨rfl, -⟩, rfl⟩
      refine JO.pur rfl rfl rfl (Pur.build (cs := [_, _]) rfl rfl) ?_
      refine JO.eff rfl rfl rfl (Eff.buildSlice enE [(atS rs x, ⟨a28, x.length, c28⟩)] rfl rfl rfl rfl rfl rfl rfl) ?_
      rintro _ _ ⟨b30, rfl, -, rfl⟩
      refine JO.eff rfl rfl rfl (Eff.append rfl rfl rfl rfl (by first | rfl | omega | (simp; done) | (simp; omega)) (by first | rfl | omega | (simp; done) | (simp; omega)) (by decide) (by simp; omega) (by simp; omega) (fun h => by cases h)) ?_
      rintro _ _ ⟨a31, c31, rfl, rfl⟩
      refine JO.pur rfl rfl rfl (Pur.assign rfl) ?_
      refine JO.nil ?_
      refine J.inBlock ?_
      refine J.region rfl ?_
      refine JO.pur rfl rfl rfl (Pur.add rfl rfl (wr64 (by omega))) ?_
      refine JO.pur rfl rfl rfl (Pur.move rfl) ?_
      refine JO.nil ?_
      exact J.weaken (.cons rfl (by show Value.slice a31 _ c31 = Value.slice a31 (k + 1) c31; simp [hel]) (.cons rfl (congrArg (Value.int .i64) (by first | rfl | (dsimp only; omega))) (.cons rfl rfl (.cons rfl rfl (.cons rfl rfl .nil))))) (fun h s => by have s2 := snoc_row (E := intE) (a := a28) (n := x.length) (cap := c28) (xs := x) (hs := es.map (·.2)) (xss := xss.take k) rfl s; dsimp only; rw [List.map_append, htk, List.map_singleton]; exact SubC.out h s2) (ih0 (k + 1, a31, c31, es ++ [(atS rs x, ⟨a28, x.length, c28⟩)]) ⟨by dsimp only; omega, by dsimp only; rw [List.map_append, hes, htk, List.map_append]; rfl, hok2⟩ (by dsimp only; omega))
  · try simp only [decide_eq_true_eq, decide_eq_false_iff_not, Bool.not_eq_true', Bool.not_eq_false', Bool.and_eq_true, Bool.or_eq_true, Bool.and_eq_false_iff, Bool.or_eq_false_iff, Option.isNone_some, Option.isSome_some, Option.isNone_none, Option.isSome_none, Int.not_lt, Int.not_le, beq_iff_eq, beq_eq_false_iff_ne, bne_iff_ne, ne_eq, Bool.not_not, Decidable.not_not] at h14
    have hke : k = xss.length := by omega
    rw [List.take_of_length_le (by omega)] at hes
    refine J.condF rfl rfl ?_
    refine J.exit rfl rfl ?_
    refine J.seq rfl ?_
    refine J.region rfl ?_
    refine JO.pur rfl rfl rfl (Pur.move rfl) ?_
    refine JO.eff rfl rfl rfl (Eff.call rfl (sortS_ok (es := es) hel.symm (by omega))) ?_
    rintro _ _ ⟨ys, rfl, hpy, hys, rfl⟩
    refine JO.nil ?_
    refine J.seq rfl ?_
    refine J.region rfl ?_
    refine JO.pur rfl rfl rfl (Pur.move rfl) ?_
    refine JO.pur rfl rfl rfl (Pur.assign rfl) ?_
    refine JO.pur rfl rfl rfl (Pur.assign rfl) ?_
    refine JO.nil ?_
    refine J.ret rfl rfl ?_
    have hv : plcV rs xss = (xss.map (atS rs), true) := plcV_yes (fun x hx => by obtain ⟨j, hj, e⟩ := List.getElem_of_mem hx; exact hok j x (by omega) (by rw [List.getElem?_eq_getElem hj, e]))
    obtain ⟨yss, py, ey, ly, pz⟩ := plc_sort hes hpy
    refine ⟨_, _, ⟨ys, yss, a6, c6, by rw [hv, hpy.length_eq, hel]; rfl, rfl, fun _ => ⟨ey, py, hys⟩⟩, rfl, fun h s => ?_⟩
    rw [List.take_of_length_le (by omega)] at s
    have s2 : Sat h (rows intE (es.map (·.2)) xss :: sl enE a6 c6 ys :: L) := SubC.out h s
    have s3 := rows_perm (by rw [List.length_map]; exact ly) pz s2
    exact SubC.out h s3

theorem list_ok {L : List Asn} {a : Option Addr} {n cap : Nat} {es : List (Int × Hdr)} [SlIn enE L a es] (hn : n = es.length) (hes : es.length ≤ 1000000) :
    CallS Try.prog 113 [.slice a n cap].toArray L (fun v M => ∃ a' c', v = .slice a' es.length c' ∧ M = sl hE a' c' (es.map (·.2)) :: L) := by
  subst hn
  refine CallS.ent ?_
  refine CallS.enter Try.func113 rfl rfl rfl rfl rfl ?_
  refine J.seq rfl ?_
  refine J.region rfl ?_
  refine JO.pur rfl rfl rfl (Pur.assign rfl) ?_
  refine JO.nil ?_
  refine J.seq rfl ?_
  refine J.region rfl ?_
  refine JO.pur rfl rfl rfl (Pur.assign rfl) ?_
  refine JO.nil ?_
  refine J.seq rfl ?_
  refine J.seq rfl ?_
  refine J.region rfl ?_
  refine JO.pur rfl rfl rfl (Pur.move rfl) ?_
  refine JO.pur rfl rfl rfl (Pur.len rfl) ?_
  refine JO.pur rfl rfl rfl (Pur.move rfl) ?_
  refine JO.nil ?_
  refine J.block rfl ?_
  refine J.loopF (ι := Nat × Option Addr × Nat) (fun q => q.1 ≤ es.length) (fun q => [(3, .slice q.2.1 q.1 q.2.2), (8, .int .i64 (q.1 : Int))]) [(6, _), (7, _)] (fun q => sl hE q.2.1 q.2.2 ((es.map (·.2)).take q.1) :: L) (fun q => es.length - q.1) (0, none, 0) rfl (.cons rfl rfl (.cons rfl rfl .nil)) (.cons rfl rfl (.cons rfl rfl .nil)) (fun h s => by have s2 := sl_nil_new (E := hE) s; exact SubC.out (L := sl hE none 0 [] :: _) (M := sl hE none 0 [] :: _) h s2) (Nat.zero_le _) ?_
  rintro ⟨k, a3, c3⟩ hk ih0
  try dsimp only
  dsimp only at hk
  have htl : ((es.map (·.2)).take k).length = k := by rw [List.length_take, List.length_map]; omega
  refine J.seq rfl ?_
  refine J.region rfl ?_
  refine JO.pur rfl rfl rfl (Pur.lss rfl rfl) ?_
  refine JO.nil ?_
  refine J.seq rfl ?_
  refine J.splitB 9 rfl (fun h9 => ?_) (fun h9 => ?_)
  · try simp only [decide_eq_true_eq, decide_eq_false_iff_not, Bool.not_eq_true', Bool.not_eq_false', Bool.and_eq_true, Bool.or_eq_true, Bool.and_eq_false_iff, Bool.or_eq_false_iff, Option.isNone_some, Option.isSome_some, Option.isNone_none, Option.isSome_none, Int.not_lt, Int.not_le, beq_iff_eq, beq_eq_false_iff_ne, bne_iff_ne, ne_eq, Bool.not_not, Decidable.not_not] at h9
    have hkl : k < es.length := by omega
    obtain ⟨e, hE_⟩ : ∃ e, es[k]? = some e := ⟨_, List.getElem?_eq_getElem hkl⟩
    have hap : (es.map (·.2)).take (k + 1) = (es.map (·.2)).take k ++ [e.2] := take_get (by rw [List.getElem?_map, hE_]; rfl)
    refine J.condT rfl rfl ?_
    refine J.skip rfl ?_
    refine J.seq rfl ?_
    refine J.block rfl ?_
    refine J.seq rfl ?_
    refine J.region rfl ?_
    refine JO.pur rfl rfl rfl (Pur.idx rfl rfl rfl (by first | rfl | (simp; done) | omega) rfl (by omega)) ?_
    refine JO.pur rfl rfl rfl (Pur.loadA rfl rfl rfl (CellsIn.el rfl hE_)) ?_
    refine JO.setv (u' := enV e) 11 rfl rfl ?_
    refine JO.eff rfl rfl rfl (Eff.alloc (cs := [_, _]) rfl) ?_
    rintro _ _ ⟨b5, rfl, rfl⟩
    refine JO.effN rfl rfl (Eff.storeBA (cs' := [_, _]) rfl rfl (by rfl) (by rfl) (by rfl)) ?_
    rintro _ _ ⟨rfl, rfl⟩
    refine JO.nil ?_
    refine J.region rfl ?_
    refine JO.pur rfl rfl rfl (Pur.move rfl) ?_
    refine JO.pur rfl rfl rfl (Pur.fieldAddr rfl) ?_
    refine JO.pur rfl rfl rfl (Pur.load rfl (CellIn.blk rfl)) ?_
    refine JO.eff rfl rfl rfl (Eff.buildSlice hE [e.2] rfl rfl rfl rfl rfl rfl rfl) ?_
    rintro _ _ ⟨b15, rfl, -, rfl⟩
    refine JO.eff rfl rfl rfl (Eff.append rfl rfl rfl rfl (by first | rfl | omega | (simp; done) | (simp; omega)) (by first | rfl | omega | (simp; done) | (simp; omega)) (by decide) (by simp; omega) (by simp; omega) (fun h => by cases h)) ?_
    rintro _ _ ⟨a16, c16, rfl, rfl⟩
    refine JO.pur rfl rfl rfl (Pur.assign rfl) ?_
    refine JO.nil ?_
    refine J.inBlock ?_
    refine J.region rfl ?_
    refine JO.pur rfl rfl rfl (Pur.add rfl rfl (wr64 (by omega))) ?_
    refine JO.pur rfl rfl rfl (Pur.move rfl) ?_
    refine JO.nil ?_
    exact J.weaken (.cons rfl (by show Value.slice a16 _ c16 = Value.slice a16 (k + 1) c16; rw [htl]; rfl) (.cons rfl (congrArg (Value.int .i64) (by first | rfl | (dsimp only; omega))) (.cons rfl rfl (.cons rfl rfl .nil)))) (fun h s => by dsimp only; rw [hap]; exact SubC.out h s) (ih0 (k + 1, a16, c16) (by dsimp only; omega) (by dsimp only; omega))
  · try simp only [decide_eq_true_eq, decide_eq_false_iff_not, Bool.not_eq_true', Bool.not_eq_false', Bool.and_eq_true, Bool.or_eq_true, Bool.and_eq_false_iff, Bool.or_eq_false_iff, Option.isNone_some, Option.isSome_some, Option.isNone_none, Option.isSome_none, Int.not_lt, Int.not_le, beq_iff_eq, beq_eq_false_iff_ne, bne_iff_ne, ne_eq, Bool.not_not, Decidable.not_not] at h9
    have hke : k = es.length := by omega
    refine J.condF rfl rfl ?_
    refine J.exit rfl rfl ?_
    refine J.seq rfl ?_
    refine J.region rfl ?_
    refine JO.pur rfl rfl rfl (Pur.move rfl) ?_
    refine JO.pur rfl rfl rfl (Pur.assign rfl) ?_
    refine JO.nil ?_
    refine J.ret rfl rfl ?_
    refine ⟨_, _, ⟨a3, c3, rfl, rfl⟩, by rw [hke]; rfl, fun h s => ?_⟩
    rw [List.take_of_length_le (by rw [List.length_map]; omega)] at s
    exact SubC.out h s

theorem same_cl {L : List Asn} {x y : Int × Hdr} :
    CallS Try.prog 117 [enV x, enV y].toArray L (fun v M => v = .bool (decide (enK x = enK y)) ∧ M = L) := by
  refine CallS.ent ?_
  refine CallS.enter Try.func117 rfl rfl rfl rfl rfl ?_
  refine J.seq rfl ?_
  refine J.region rfl ?_
  refine JO.eff rfl rfl rfl (Eff.box (cs := [_, _]) rfl rfl) ?_
  rintro _ _ ⟨b2, rfl, rfl⟩
  refine JO.eff rfl rfl rfl (Eff.box (cs := [_, _]) rfl rfl) ?_
  rintro _ _ ⟨b3, rfl, rfl⟩
  refine JO.pur rfl rfl rfl (Pur.assign rfl) ?_
  refine JO.nil ?_
  refine J.seq rfl ?_
  refine J.region rfl ?_
  refine JO.pur rfl rfl rfl (Pur.fieldAddr rfl) ?_
  refine JO.pur rfl rfl rfl (Pur.load rfl (CellIn.blk rfl)) ?_
  refine JO.pur rfl rfl rfl (Pur.fieldAddr rfl) ?_
  refine JO.pur rfl rfl rfl (Pur.load rfl (CellIn.blk rfl)) ?_
  refine JO.pur rfl rfl rfl (Pur.eqlI rfl rfl) ?_
  refine JO.pur rfl rfl rfl (Pur.assign rfl) ?_
  refine JO.nil ?_
  refine J.ret rfl rfl ?_
  refine ⟨_, _, ⟨rfl, rfl⟩, rfl, SubC.out⟩

end Go.Proofs.Ytnhippfllgnngaa
