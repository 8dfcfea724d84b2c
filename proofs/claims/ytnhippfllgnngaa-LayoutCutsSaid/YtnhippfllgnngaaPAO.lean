/-
  A part of the proof of the claim that this folder bears.
-/
import Derived.Test.YtnhippfllgnngaaPAJ
import Derived.Test.YtnhippfllgnngaaPAN
/- The text LPlain3. -/
set_option linter.unusedVariables false
set_option linter.unusedSimpArgs false
/-! The runs of a part: the sorted places of its members are the places whose members are the part's. -/
namespace Dm
open Go.Proofs.Ytnhippfllgnngaa
theorem runStep_hit {out : List (Int × Int)} {n : Int} {p : Int × Int} (h : out[out.length - 1]? = some p) (e : p.1 + p.2 = n) : runStep out n = out.set (out.length - 1) (p.1, p.2 + 1) := by
  unfold runStep; rw [List.getLast?_eq_getElem?, h]; simp [e]
theorem runStep_new {out : List (Int × Int)} {n : Int} {p : Int × Int} (h : out[out.length - 1]? = some p) (e : ¬ p.1 + p.2 = n) : runStep out n = out ++ [(n, 1)] := by
  unfold runStep; rw [List.getLast?_eq_getElem?, h]; simp [e]
theorem runStep_nil {out : List (Int × Int)} {n : Int} (h : out.length = 0) : runStep out n = out ++ [(n, 1)] := by
  have : out = [] := List.eq_nil_of_length_eq_zero h
  subst this; rfl
theorem runStep_mem {out : List (Int × Int)} {n : Int} {q : Int × Int} (h : q ∈ runStep out n) : q ∈ out ∨ q = (n, 1) ∨ ∃ p ∈ out, q = (p.1, p.2 + 1) := by
  unfold runStep at h
  split at h
  · rename_i p hp
    have hpm : p ∈ out := List.mem_of_getLast? hp
    split at h
    · rcases List.mem_or_eq_of_mem_set h with h | h
      · exact .inl h
      · exact .inr (.inr ⟨p, hpm, h⟩)
    · rcases List.mem_append.1 h with h | h
      · exact .inl h
      · exact .inr (.inl (List.mem_singleton.1 h))
  · rcases List.mem_append.1 h with h | h
    · exact .inl h
    · exact .inr (.inl (List.mem_singleton.1 h))
theorem fold_bnd {lo hi : Int} : ∀ (l : List Int) (out : List (Int × Int)) (k : Int), (∀ n ∈ l, lo ≤ n ∧ n ≤ hi) → (∀ p ∈ out, (lo ≤ p.1 ∧ p.1 ≤ hi) ∧ 1 ≤ p.2 ∧ p.2 ≤ k) → 0 ≤ k → ∀ p ∈ l.foldl runStep out, (lo ≤ p.1 ∧ p.1 ≤ hi) ∧ 1 ≤ p.2 ∧ p.2 ≤ k + (l.length : Int) := by
  intro l
  induction l with
  | nil => intro out k _ h0 _ p hp; have := h0 p hp; simpa using this
  | cons n l ih =>
    intro out k hl h0 hk p hp
    have := ih (runStep out n) (k + 1) (fun m hm => hl m (List.mem_cons_of_mem _ hm)) (fun q hq => by
      rcases runStep_mem hq with h | h | ⟨p, hp, h⟩
      · have := h0 q h; omega
      · subst h; have := hl n (List.mem_cons_self ..); dsimp only; omega
      · subst h; have := h0 p hp; dsimp only; omega) (by omega) p hp
    rw [List.length_cons]; omega
theorem runs_bnd {l : List Int} {lo hi : Int} (hl : ∀ n ∈ l, lo ≤ n ∧ n ≤ hi) {p : Int × Int} (hp : p ∈ runsOf l) : (lo ≤ p.1 ∧ p.1 ≤ hi) ∧ 1 ≤ p.2 ∧ p.2 ≤ (l.length : Int) := by
  have := fold_bnd l [] 0 hl (fun p hp => by cases hp) (by omega) p hp
  omega
/-- The places whose members are in a part. -/
def plcs (c : Bool) (d part : List Rg) : List Int := ((List.range (ordL c d).length).filter fun i => decide ((ordL c d).getD i [] ∈ idx part)).map fun (i : Nat) => (i : Int)
theorem plcs_asc (c : Bool) (d part : List Rg) : (plcs c d part).Pairwise (· < ·) := by
  unfold plcs
  rw [List.pairwise_map]
  exact (List.Pairwise.filter _ List.pairwise_lt_range).imp fun h => by omega
theorem pw_nodup {l : List Int} (h : l.Pairwise (· < ·)) : l.Nodup := h.imp fun h => by omega
theorem offs_nodup {c : Bool} {d part : List Rg} (hd : okRs d) (hp : okRs part) (hw : wiD part d) : (offsL c d part).Nodup := by
  unfold offsL
  have h1 := ord_nodup (c := c) hp
  refine List.pairwise_map.2 (h1.imp_of_mem ?_)
  intro x y hx hy hne e
  obtain ⟨n, hn⟩ := off_of_mem (c := c) hd (hw x ((mem_ord hp).1 hx))
  obtain ⟨m, hm⟩ := off_of_mem (c := c) hd (hw y ((mem_ord hp).1 hy))
  unfold offZ at e
  rw [hn, hm] at e
  have e2 : n = m := Int.ofNat.inj e
  subst e2
  have a1 := (off_iff hd).1 hn
  have a2 := (off_iff hd).1 hm
  rw [a1] at a2
  exact hne (Option.some.inj a2)
theorem offs_mem {c : Bool} {d part : List Rg} (hd : okRs d) (hp : okRs part) (hw : wiD part d) {z : Int} : z ∈ offsL c d part ↔ z ∈ plcs c d part := by
  unfold offsL plcs
  simp only [List.mem_map, List.mem_filter, List.mem_range, decide_eq_true_eq]
  constructor
  · rintro ⟨x, hx, rfl⟩
    have hx2 := (mem_ord hp).1 hx
    obtain ⟨n, hn⟩ := off_of_mem (c := c) hd (hw x hx2)
    refine ⟨n, ⟨off_lt hd hn, ?_⟩, by unfold offZ; rw [hn]; rfl⟩
    rw [List.getD_eq_getElem?_getD, (off_iff hd).1 hn]; exact hx2
  · rintro ⟨n, ⟨hn, hm⟩, rfl⟩
    have hg : (ordL c d)[n]? = some ((ordL c d).getD n []) := by rw [List.getD_eq_getElem?_getD, List.getElem?_eq_getElem hn]; rfl
    refine ⟨_, (mem_ord hp).2 hm, ?_⟩
    unfold offZ
    rw [(off_iff hd).2 hg]; rfl
theorem offs_perm {c : Bool} {d part : List Rg} (hd : okRs d) (hp : okRs part) (hw : wiD part d) : (offsL c d part).Perm (plcs c d part) :=
  (List.perm_ext_iff_of_nodup (offs_nodup hd hp hw) (pw_nodup (plcs_asc c d part))).2 fun z => offs_mem hd hp hw
theorem offs_sort {c : Bool} {d part : List Rg} (hd : okRs d) (hp : okRs part) (hw : wiD part d) : srt (offsL c d part) = plcs c d part :=
  srt_eq (offs_perm hd hp hw) (plcs_asc c d part)
theorem plcs_bnd {c : Bool} {d part : List Rg} {z : Int} (h : z ∈ plcs c d part) : 0 ≤ z ∧ z ≤ ((ordL c d).length : Int) - 1 := by
  unfold plcs at h
  simp only [List.mem_map, List.mem_filter, List.mem_range] at h
  obtain ⟨n, ⟨h1, _⟩, rfl⟩ := h
  omega
/-- Of the first places. -/
def plcsK (c : Bool) (d part : List Rg) (k : Nat) : List Int := ((List.range k).filter fun i => decide ((ordL c d).getD i [] ∈ idx part)).map fun (i : Nat) => (i : Int)
theorem plcsK_all (c : Bool) (d part : List Rg) : plcsK c d part (ordL c d).length = plcs c d part := rfl
theorem plcsK_yes {c : Bool} {d part : List Rg} {k : Nat} {x : List Int} (hx : (ordL c d)[k]? = some x) (h : x ∈ idx part) : plcsK c d part (k + 1) = plcsK c d part k ++ [(k : Int)] := by
  unfold plcsK
  rw [List.range_succ, List.filter_append, List.map_append]
  congr 1
  simp [List.getD_eq_getElem?_getD, hx, h]
theorem plcsK_no {c : Bool} {d part : List Rg} {k : Nat} {x : List Int} (hx : (ordL c d)[k]? = some x) (h : ¬ x ∈ idx part) : plcsK c d part (k + 1) = plcsK c d part k := by
  unfold plcsK
  rw [List.range_succ, List.filter_append, List.map_append]
  simp [List.getD_eq_getElem?_getD, hx, h]
theorem plcsK_len (c : Bool) (d part : List Rg) (k : Nat) : (plcsK c d part k).length ≤ k := by
  unfold plcsK
  rw [List.length_map]
  exact Nat.le_trans (List.length_filter_le _ _) (by simp)
theorem plcsK_bnd {c : Bool} {d part : List Rg} {k : Nat} {z : Int} (h : z ∈ plcsK c d part k) : 0 ≤ z ∧ z ≤ (k : Int) := by
  unfold plcsK at h
  simp only [List.mem_map, List.mem_filter, List.mem_range] at h
  obtain ⟨n, ⟨h1, _⟩, rfl⟩ := h
  omega
theorem findL_mem {l : List (List Int)} {x : List Int} : findL l x < 0 ↔ ¬ x ∈ l := by
  unfold findL
  cases e : l.findIdx? (fun y => decide (y = x)) with
  | none =>
    rw [List.findIdx?_eq_none_iff] at e
    refine ⟨fun _ hm => ?_, fun _ => by decide⟩
    have := e x hm
    simp at this
  | some i =>
    refine ⟨fun h => absurd h (Int.not_lt.2 (Int.natCast_nonneg i)), fun h => ?_⟩
    obtain ⟨hi, h1, _⟩ := List.findIdx?_eq_some_iff_getElem.1 e
    exact absurd ((of_decide_eq_true h1) ▸ List.getElem_mem hi) h
end Dm

/- The text SE1. -/
set_option linter.unusedVariables false
set_option linter.unusedSimpArgs false
set_option maxRecDepth 10000
namespace Go.Proofs.Ytnhippfllgnngaa
open Go Go.KK Dm

theorem eq2 (x y : Int × Int) (w : World) : (Op.equal 61 (.agg (pairE.enc x).toArray) (.agg (pairE.enc y).toArray)).run Try.prog w = .ok (decide (x = y)) w := by
  have hu := run_underlying (P := Try.prog) Try.underlying61 w
  have hi : (sizeOf 3).run Try.prog w = .ok 1 w := run_sizeOf_of (by kernel_rfl)
  have hs := Scl.run (P := Try.prog) (t := 3) (w := w) (by kernel_rfl)
  have he := fun a b => run_equalIn_int (P := Try.prog) w 9998 3 .i64 .i64 a b Try.underlying3
  obtain ⟨a, b⟩ := x
  obtain ⟨c, d⟩ := y
  unfold Op.equal
  rw [show Op.maxDepth = 9999 + 1 from rfl, Op.equalIn.eq_def]
  simp only [pairE, Sem.run_bind, hu, hi, Result.andThen_ok]
  simp [Std.Legacy.Range.forIn_eq_forIn_range', List.range', part, hs, he]
  by_cases h1 : a = c <;> by_cases h2 : b = d <;> simp [h1, h2]
instance : EqE Try.prog 61 pairE := ⟨by kernel_rfl, eq2⟩
theorem r_Within {L : List Asn} {a b : Option Addr} {n cap m cq : Nat} {rs ss : List Rg} [SlIn rgE L a rs] [SlIn rgE L b ss] (hn : n = rs.length) (hm : m = ss.length) :
    CallS Try.prog 69 [.agg #[.slice a n cap], .agg #[.slice b m cq]].toArray L (fun v M => v = .tuple #[.bool (witV rs ss).1, .int .i64 (witV rs ss).2] ∧ M = L) := by
  subst hn
  subst hm
  refine CallS.ent ?_
  refine CallS.enter Try.func69 rfl rfl rfl rfl rfl ?_
  refine J.seq rfl ?_
  refine J.region rfl ?_
  refine JO.eff rfl rfl rfl (Eff.box (cs := [_]) rfl rfl) ?_
  rintro _ _ ⟨b2, rfl, rfl⟩
  refine JO.eff rfl rfl rfl (Eff.box (cs := [_]) rfl rfl) ?_
  rintro _ _ ⟨b3, rfl, rfl⟩
  refine JO.pur rfl rfl rfl (Pur.assign rfl) ?_
  refine JO.pur rfl rfl rfl (Pur.assign rfl) ?_
  refine JO.nil ?_
  refine J.seq rfl ?_
  refine J.seq rfl ?_
  refine J.region rfl ?_
  refine JO.pur rfl rfl rfl (Pur.loadA rfl rfl rfl CellsIn.blk) ?_
  refine JO.pur rfl rfl rfl (Pur.loadA rfl rfl rfl CellsIn.blk) ?_
  refine JO.effR rfl rfl rfl (Eff.call rfl (r_two (rs := rs) (ss := ss) rfl rfl)) ?_
  refine JO.pur rfl rfl rfl (Pur.assign rfl) ?_
  refine JO.nil ?_
  refine J.seq rfl ?_
  refine J.region rfl ?_
  refine JO.pur rfl rfl rfl (Pur.move rfl) ?_
  refine JO.pur rfl rfl rfl (Pur.neqI rfl rfl) ?_
  refine JO.nil ?_
  refine J.splitB 17 rfl (fun h17 => ?_) (fun h17 => ?_)
  · try simp only [decide_eq_true_eq, decide_eq_false_iff_not, Bool.not_eq_true', Bool.not_eq_false', Bool.and_eq_true, Bool.or_eq_true, Bool.and_eq_false_iff, Bool.or_eq_false_iff, Option.isNone_some, Option.isSome_some, Option.isNone_none, Option.isSome_none, Int.not_lt, Int.not_le, beq_iff_eq, beq_eq_false_iff_ne, bne_iff_ne, ne_eq, Bool.not_not, Decidable.not_not] at h17
    have h17' : twoV rs ss ≠ 0 := h17
    refine J.condT rfl rfl ?_
    refine J.seq rfl ?_
    refine J.region rfl ?_
    refine JO.pur rfl rfl rfl (Pur.move rfl) ?_
    refine JO.pur rfl rfl rfl (Pur.assign rfl) ?_
    refine JO.pur rfl rfl rfl (Pur.assign rfl) ?_
    refine JO.nil ?_
    refine J.ret rfl rfl ?_
    have hv : witV rs ss = (false, twoV rs ss) := by unfold witV; rw [if_pos h17']
    refine ⟨_, _, ⟨rfl, rfl⟩, by rw [hv]; rfl, SubC.out⟩
  · try simp only [decide_eq_true_eq, decide_eq_false_iff_not, Bool.not_eq_true', Bool.not_eq_false', Bool.and_eq_true, Bool.or_eq_true, Bool.and_eq_false_iff, Bool.or_eq_false_iff, Option.isNone_some, Option.isSome_some, Option.isNone_none, Option.isSome_none, Int.not_lt, Int.not_le, beq_iff_eq, beq_eq_false_iff_ne, bne_iff_ne, ne_eq, Bool.not_not, Decidable.not_not] at h17
    have h17' : twoV rs ss = 0 := by simpa using h17
    obtain ⟨g1, g2, hle⟩ := twoV_ok h17'
    have hl3 := g1.2.1
    have hc4 := g1.2.2.2
    refine J.condF rfl rfl ?_
    refine J.skip rfl ?_
    refine J.seq rfl ?_
    refine J.region rfl ?_
    refine JO.pur rfl rfl rfl (Pur.loadA rfl rfl rfl CellsIn.blk) ?_
    refine JO.eff rfl rfl rfl (Eff.call rfl (r_Indexes (rs := rs) rfl)) ?_
    rintro _ _ ⟨a21, c21, hs, rfl, rfl⟩
    refine JO.pur rfl rfl rfl (Pur.move rfl) ?_
    refine JO.pur rfl rfl rfl (Pur.extract rfl rfl) ?_
    refine JO.pur rfl rfl rfl (Pur.extract rfl rfl) ?_
    refine JO.pur rfl rfl rfl (Pur.assign rfl) ?_
    refine JO.pur rfl rfl rfl (Pur.assign rfl) ?_
    refine JO.nil ?_
    refine J.seq rfl ?_
    refine J.seq rfl ?_
    have hv0 : ixsV rs = idx rs := by unfold ixsV; rw [if_pos g1]
    have hil : (ixsV rs).length = cntD rs := by rw [hv0, idx_len]
    refine J.fact (fun h s => RowsR.len (E := intE) (hs := hs) (xss := ixsV rs) s) fun hnn => ?_
    have hhl : hs.length = (ixsV rs).length := rows_len hnn
    refine J.region rfl ?_
    refine JO.pur rfl rfl rfl (Pur.assign rfl) ?_
    refine JO.nil ?_
    refine J.block rfl ?_
    refine J.loopF (ι := Nat) (fun q => q ≤ cntD rs ∧ ∀ j, j < q → ∀ x, (idx rs)[j]? = some x → x ∈ idx ss) (fun q => [(9, .int .i64 (q : Int))]) [(3, _), (7, _)] (fun q => sl hE a21 c21 hs :: rows intE hs (ixsV rs) :: blk b3 (.cells #[.slice b ss.length cq] 24 (0, 0)) :: L) (fun q => cntD rs - q) 0 rfl (.cons rfl rfl (.cons rfl rfl .nil)) (.cons rfl rfl .nil) (by first | exact fun _ h => h | exact SubC.out | (dsimp only; exact SubC.out)) ⟨Nat.zero_le _, fun j hj => by omega⟩ ?_
    rintro k ⟨hk, hno⟩ ihk
    try dsimp only
    refine J.seq rfl ?_
    refine J.seq rfl ?_
    refine J.region rfl ?_
    refine JO.pur rfl rfl rfl (Pur.move rfl) ?_
    refine JO.pur rfl rfl rfl (Pur.move rfl) ?_
    refine JO.pur rfl rfl rfl (Pur.len rfl) ?_
    refine JO.pur rfl rfl rfl (Pur.lss rfl rfl) ?_
    refine JO.nil ?_
    refine J.splitB 27 rfl (fun h27 => ?_) (fun h27 => ?_)
    · try simp only [decide_eq_true_eq, decide_eq_false_iff_not, Bool.not_eq_true', Bool.not_eq_false', Bool.and_eq_true, Bool.or_eq_true, Bool.and_eq_false_iff, Bool.or_eq_false_iff, Option.isNone_some, Option.isSome_some, Option.isNone_none, Option.isSome_none, Int.not_lt, Int.not_le, beq_iff_eq, beq_eq_false_iff_ne, bne_iff_ne, ne_eq, Bool.not_not, Decidable.not_not] at h27
      have hkl : k < cntD rs := by omega
      obtain ⟨hd, hH⟩ : ∃ hd, hs[k]? = some hd := ⟨_, List.getElem?_eq_getElem (by omega)⟩
      have hX : (ixsV rs)[k]? = some (ixD rs k) := by rw [hv0]; exact ixD_get hkl
      have hdn := hdr_n hnn hH hX
      have hXl := ixD_len hkl
      obtain ⟨x, hx⟩ : ∃ x, x = ixD rs k := ⟨_, rfl⟩
      rw [← hx] at hX hdn hXl
      refine J.condT rfl rfl ?_
      refine J.skip rfl ?_
      refine J.seq rfl ?_
      refine J.block rfl ?_
      refine J.seq rfl ?_
      refine J.region rfl ?_
      refine JO.pur rfl rfl rfl (Pur.assign rfl) ?_
      refine JO.nil ?_
      refine J.block rfl ?_
      refine J.loopF (ι := Nat) (fun q => q ≤ x.length ∧ ∀ j, j < q → (plR (ss.getD j default) (x.getD j default)).isSome = true) (fun q => [(10, .int .i64 (q : Int))]) [(3, _), (7, _), (9, _)] (fun q => sl hE a21 c21 hs :: rows intE hs (ixsV rs) :: blk b3 (.cells #[.slice b ss.length cq] 24 (0, 0)) :: L) (fun q => x.length - q) 0 rfl (.cons rfl rfl (.cons rfl rfl (.cons rfl rfl .nil))) (.cons rfl rfl .nil) (by first | exact fun _ h => h | exact SubC.out | (dsimp only; exact SubC.out)) ⟨Nat.zero_le _, fun j hj => by omega⟩ ?_
      rintro i ⟨hi, hin⟩ ihi
      try dsimp only
      refine J.seq rfl ?_
      refine J.seq rfl ?_
      refine J.region rfl ?_
      refine JO.pur rfl rfl rfl (Pur.move rfl) ?_
      refine JO.pur rfl rfl rfl (Pur.move rfl) ?_
      refine JO.pur rfl rfl rfl (Pur.move rfl) ?_
      refine JO.pur rfl rfl rfl (Pur.idx rfl rfl rfl (by first | rfl | (simp; done) | omega) rfl (by omega)) ?_
      refine JO.pur rfl rfl rfl (Pur.load rfl (CellIn.el0 rfl hH rfl)) ?_
      refine JO.setv (u' := .slice hd.a hd.n hd.cap) 34 rfl rfl ?_
      refine JO.pur rfl rfl rfl (Pur.len rfl) ?_
      refine JO.pur rfl rfl rfl (Pur.lss rfl rfl) ?_
      refine JO.nil ?_
      refine J.splitB 36 rfl (fun h36 => ?_) (fun h36 => ?_)
      · try simp only [decide_eq_true_eq, decide_eq_false_iff_not, Bool.not_eq_true', Bool.not_eq_false', Bool.and_eq_true, Bool.or_eq_true, Bool.and_eq_false_iff, Bool.or_eq_false_iff, Option.isNone_some, Option.isSome_some, Option.isNone_none, Option.isSome_none, Int.not_lt, Int.not_le, beq_iff_eq, beq_eq_false_iff_ne, bne_iff_ne, ne_eq, Bool.not_not, Decidable.not_not] at h36
        have hil2 : i < x.length := by omega
        have hsi : ss[i]? = some (ss.getD i default) := by rw [List.getD_eq_getElem?_getD, List.getElem?_eq_getElem (by omega)]; rfl
        have hxi : x[i]? = some (x.getD i default) := by rw [List.getD_eq_getElem?_getD, List.getElem?_eq_getElem hil2]; rfl
        have hor : okR (ss.getD i default) := g2.2.2.1 _ (getD_mem (by omega))
        refine J.condT rfl rfl ?_
        refine J.skip rfl ?_
        refine J.seq rfl ?_
        refine J.block rfl ?_
        refine J.seq rfl ?_
        refine J.mask0 (n := 18) [] rfl Try.mixed rfl (by kernel_rfl) ?_
        refine JM.take 0 (fun _ h => h) rfl (by kernel_rfl) rfl rfl rfl (m' := 1) rfl (Pur.fieldAddr rfl) ?_
        refine JM.take 1 (fun _ h => h) rfl (by kernel_rfl) rfl rfl rfl (m' := 3) rfl (Pur.load rfl (CellIn.blk rfl)) ?_
        refine JM.take 2 (fun _ h => h) rfl (by kernel_rfl) rfl rfl rfl (m' := 7) rfl (Pur.move rfl) ?_
        refine JM.take 3 (fun _ h => h) rfl (by kernel_rfl) rfl rfl rfl (m' := 15) rfl (Pur.idx rfl rfl rfl (by first | rfl | (simp; done) | omega) rfl (by omega)) ?_
        refine JM.take 4 (fun _ h => h) rfl (by kernel_rfl) rfl rfl rfl (m' := 31) rfl (Pur.loadA rfl rfl rfl (CellsIn.el rfl hsi)) ?_
        refine JM.setv (u' := rgV (ss.getD i default)) 44 rfl rfl ?_
        refine JM.take 5 (fun _ h => h) rfl (by kernel_rfl) rfl rfl rfl (m' := 63) rfl (Pur.move rfl) ?_
        refine JM.take 6 (fun _ h => h) rfl (by kernel_rfl) rfl rfl rfl (m' := 127) rfl (Pur.move rfl) ?_
        refine JM.take 7 (fun _ h => h) rfl (by kernel_rfl) rfl rfl rfl (m' := 255) rfl (Pur.idx rfl rfl rfl (by first | rfl | (simp; done) | omega) rfl (by omega)) ?_
        refine JM.take 8 (fun _ h => h) rfl (by kernel_rfl) rfl rfl rfl (m' := 511) rfl (Pur.load rfl (CellIn.el0 rfl hH rfl)) ?_
        refine JM.setv (u' := .slice hd.a hd.n hd.cap) 48 rfl rfl ?_
        refine JM.take 9 (fun _ h => h) rfl (by kernel_rfl) rfl rfl rfl (m' := 1023) rfl (Pur.move rfl) ?_
        refine JM.take 10 (fun _ h => h) rfl (by kernel_rfl) rfl rfl rfl (m' := 2047) rfl (Pur.idx (hs := (RowsR.row (E := intE) inferInstance hH hX)) rfl rfl rfl (by first | rfl | (simp; done) | omega) rfl (by omega)) ?_
        refine JM.take 11 (fun _ h => h) rfl (by kernel_rfl) rfl rfl rfl (m' := 4095) rfl (Pur.load rfl (CellIn.el0 (hh := (RowsR.row (E := intE) inferInstance hH hX)) rfl hxi rfl)) ?_
        refine JM.setv (u' := .int .i64 (x.getD i default)) 51 rfl rfl ?_
        refine JM.one (i := 12) (by kernel_rfl) ?_
        refine JMi.effR (fun _ h => h) rfl rfl rfl rfl (m' := 8191) rfl (Eff.call rfl (r3_Has hor)) ?_
        refine JM.take 13 (fun _ h => h) rfl (by kernel_rfl) rfl rfl rfl (m' := 16383) rfl (Pur.move rfl) ?_
        refine JM.take 14 (fun _ h => h) rfl (by kernel_rfl) rfl rfl rfl (m' := 32767) rfl (Pur.extract rfl rfl) ?_
        refine JM.take 15 (fun _ h => h) rfl (by kernel_rfl) rfl rfl rfl (m' := 65535) rfl (Pur.extract rfl rfl) ?_
        refine JM.take 16 (fun _ h => h) rfl (by kernel_rfl) rfl rfl rfl (m' := 131071) rfl (Pur.assign rfl) ?_
        refine JM.take 17 (fun _ h => h) rfl (by kernel_rfl) rfl rfl rfl (m' := 262143) rfl (Pur.assign rfl) ?_
        refine JM.done rfl ?_
        refine J.seq rfl ?_
        refine J.region rfl ?_
        refine JO.pur rfl rfl rfl (Pur.move rfl) ?_
        refine JO.pur rfl rfl rfl (Pur.not rfl) ?_
        refine JO.nil ?_
        refine J.splitB 56 rfl (fun h56 => ?_) (fun h56 => ?_)
        · try simp only [decide_eq_true_eq, decide_eq_false_iff_not, Bool.not_eq_true', Bool.not_eq_false', Bool.and_eq_true, Bool.or_eq_true, Bool.and_eq_false_iff, Bool.or_eq_false_iff, Option.isNone_some, Option.isSome_some, Option.isNone_none, Option.isSome_none, Int.not_lt, Int.not_le, beq_iff_eq, beq_eq_false_iff_ne, bne_iff_ne, ne_eq, Bool.not_not, Decidable.not_not] at h56
          have hn56 : ¬ (plR (ss.getD i default) (x.getD i default)).isSome = true := by simpa using h56
          refine J.condT rfl rfl ?_
          refine J.seq rfl ?_
          refine J.region rfl ?_
          refine JO.pur rfl rfl rfl (Pur.assign rfl) ?_
          refine JO.pur rfl rfl rfl (Pur.assign rfl) ?_
          refine JO.nil ?_
          refine J.ret rfl rfl ?_
          have hv : witV rs ss = (false, 0) := by
            unfold witV; rw [if_neg (not_not_intro h17')]
            refine congrArg (·, (0 : Int)) (decide_eq_false fun hw => ?_)
            have hm := (mem_idx g2.2.2.1).1 (hw x (List.mem_of_getElem? (by rw [← hv0]; exact hX)))
            exact hn56 (hm.2 i (by omega))
          refine ⟨_, _, ⟨rfl, rfl⟩, by rw [hv]; rfl, SubC.out⟩
        · try simp only [decide_eq_true_eq, decide_eq_false_iff_not, Bool.not_eq_true', Bool.not_eq_false', Bool.and_eq_true, Bool.or_eq_true, Bool.and_eq_false_iff, Bool.or_eq_false_iff, Option.isNone_some, Option.isSome_some, Option.isNone_none, Option.isSome_none, Int.not_lt, Int.not_le, beq_iff_eq, beq_eq_false_iff_ne, bne_iff_ne, ne_eq, Bool.not_not, Decidable.not_not] at h56
          have hn56 : (plR (ss.getD i default) (x.getD i default)).isSome = true := by simpa using h56
          have hin2 : ∀ j, j < i + 1 → (plR (ss.getD j default) (x.getD j default)).isSome = true := fun j hj => by
            rcases Nat.lt_or_ge j i with h | h
            · exact hin j h
            · obtain rfl : j = i := by omega
              exact hn56
          refine J.condF rfl rfl ?_
          refine J.skip rfl ?_
          refine J.inBlock ?_
          refine J.region rfl ?_
          refine JO.pur rfl rfl rfl (Pur.move rfl) ?_
          refine JO.pur rfl rfl rfl (Pur.add rfl rfl (wr64 (by omega))) ?_
          refine JO.pur rfl rfl rfl (Pur.assign rfl) ?_
          refine JO.nil ?_
          exact J.weaken (.cons rfl (congrArg (Value.int .i64) (by first | rfl | (dsimp only; omega))) (.cons rfl rfl (.cons rfl rfl (.cons rfl rfl .nil)))) (by first | exact fun _ h => h | exact SubC.out | (dsimp only; exact SubC.out)) (ihi (i + 1) ⟨by omega, hin2⟩ (by omega))
      · try simp only [decide_eq_true_eq, decide_eq_false_iff_not, Bool.not_eq_true', Bool.not_eq_false', Bool.and_eq_true, Bool.or_eq_true, Bool.and_eq_false_iff, Bool.or_eq_false_iff, Option.isNone_some, Option.isSome_some, Option.isNone_none, Option.isSome_none, Int.not_lt, Int.not_le, beq_iff_eq, beq_eq_false_iff_ne, bne_iff_ne, ne_eq, Bool.not_not, Decidable.not_not] at h36
        have hno2 : ∀ j, j < k + 1 → ∀ y, (idx rs)[j]? = some y → y ∈ idx ss := fun j hj y hy => by
          rcases Nat.lt_or_ge j k with h | h
          · exact hno j h y hy
          · obtain rfl : j = k := by omega
            rw [hv0, hy] at hX; obtain rfl := Option.some.inj hX
            exact (mem_idx g2.2.2.1).2 ⟨by omega, fun t ht => hin t (by omega)⟩
        refine J.condF rfl rfl ?_
        refine J.exit rfl rfl ?_
        refine J.inBlock ?_
        refine J.region rfl ?_
        refine JO.pur rfl rfl rfl (Pur.move rfl) ?_
        refine JO.pur rfl rfl rfl (Pur.add rfl rfl (wr64 (by omega))) ?_
        refine JO.pur rfl rfl rfl (Pur.assign rfl) ?_
        refine JO.nil ?_
        exact J.weaken (.cons rfl (congrArg (Value.int .i64) (by first | rfl | (dsimp only; omega))) (.cons rfl rfl (.cons rfl rfl .nil))) (by first | exact fun _ h => h | exact SubC.out | (dsimp only; exact SubC.out)) (ihk (k + 1) ⟨by omega, hno2⟩ (by omega))
    · try simp only [decide_eq_true_eq, decide_eq_false_iff_not, Bool.not_eq_true', Bool.not_eq_false', Bool.and_eq_true, Bool.or_eq_true, Bool.and_eq_false_iff, Bool.or_eq_false_iff, Option.isNone_some, Option.isSome_some, Option.isNone_none, Option.isSome_none, Int.not_lt, Int.not_le, beq_iff_eq, beq_eq_false_iff_ne, bne_iff_ne, ne_eq, Bool.not_not, Decidable.not_not] at h27
      have hke : k = cntD rs := by omega
      refine J.condF rfl rfl ?_
      refine J.exit rfl rfl ?_
      refine J.seq rfl ?_
      refine J.region rfl ?_
      refine JO.pur rfl rfl rfl (Pur.assign rfl) ?_
      refine JO.pur rfl rfl rfl (Pur.assign rfl) ?_
      refine JO.nil ?_
      refine J.ret rfl rfl ?_
      have hv : witV rs ss = (true, 0) := by
        unfold witV; rw [if_neg (not_not_intro h17')]
        refine congrArg (·, (0 : Int)) (decide_eq_true fun x hx => ?_)
        obtain ⟨j, hj, e⟩ := List.getElem_of_mem hx
        exact hno j (by rw [idx_len] at hj; omega) x (by rw [List.getElem?_eq_getElem hj, e])
      refine ⟨_, _, ⟨rfl, rfl⟩, by rw [hv]; rfl, SubC.out⟩

end Go.Proofs.Ytnhippfllgnngaa

/- The text SE2. -/
set_option linter.unusedVariables false
set_option linter.unusedSimpArgs false
set_option maxRecDepth 10000
namespace Go.Proofs.Ytnhippfllgnngaa
open Go Go.KK Dm

def runV (lay : ByteArray) (rs ss : List Rg) : List (Int × Int) × Int := if wthV lay rs ss ≠ 0 then ([], wthV lay rs ss) else (runsOf (plcs (isC lay) rs ss), 0)
theorem lRuns {L : List Asn} {lay : ByteArray} {a b : Option Addr} {n cap m cq : Nat} {rs ss : List Rg} [SlIn rgE L a rs] [SlIn rgE L b ss] (hn : n = rs.length) (hm : m = ss.length) :
    CallS Try.prog 60 [.string lay, .agg #[.slice a n cap], .agg #[.slice b m cq]].toArray L (fun v M => ∃ a' c', v = .tuple #[.slice a' (runV lay rs ss).1.length c', .int .i64 (runV lay rs ss).2] ∧ M = sl pairE a' c' (runV lay rs ss).1 :: L) := by
  subst hn
  subst hm
  refine CallS.ent ?_
  refine CallS.enter Try.func60 rfl rfl rfl rfl rfl ?_
  refine J.seq rfl ?_
  refine J.region rfl ?_
  refine JO.eff rfl rfl rfl (Eff.box (cs := [_]) rfl rfl) ?_
  rintro _ _ ⟨b4, rfl, rfl⟩
  refine JO.eff rfl rfl rfl (Eff.box (cs := [_]) rfl rfl) ?_
  rintro _ _ ⟨b5, rfl, rfl⟩
  refine JO.pur rfl rfl rfl (Pur.assign rfl) ?_
  refine JO.pur rfl rfl rfl (Pur.assign rfl) ?_
  refine JO.nil ?_
  refine J.seq rfl ?_
  refine J.seq rfl ?_
  refine J.region rfl ?_
  refine JO.pur rfl rfl rfl (Pur.move rfl) ?_
  refine JO.pur rfl rfl rfl (Pur.loadA rfl rfl rfl CellsIn.blk) ?_
  refine JO.pur rfl rfl rfl (Pur.loadA rfl rfl rfl CellsIn.blk) ?_
  refine JO.effR rfl rfl rfl (Eff.call rfl (lwithin (rs := rs) (ss := ss) rfl rfl)) ?_
  refine JO.pur rfl rfl rfl (Pur.assign rfl) ?_
  refine JO.nil ?_
  refine J.seq rfl ?_
  refine J.region rfl ?_
  refine JO.pur rfl rfl rfl (Pur.move rfl) ?_
  refine JO.pur rfl rfl rfl (Pur.neqI rfl rfl) ?_
  refine JO.nil ?_
  refine J.splitB 19 rfl (fun h19 => ?_) (fun h19 => ?_)
  · try simp only [decide_eq_true_eq, decide_eq_false_iff_not, Bool.not_eq_true', Bool.not_eq_false', Bool.and_eq_true, Bool.or_eq_true, Bool.and_eq_false_iff, Bool.or_eq_false_iff, Option.isNone_some, Option.isSome_some, Option.isNone_none, Option.isSome_none, Int.not_lt, Int.not_le, beq_iff_eq, beq_eq_false_iff_ne, bne_iff_ne, ne_eq, Bool.not_not, Decidable.not_not] at h19
    have h19' : wthV lay rs ss ≠ 0 := h19
    refine J.condT rfl rfl ?_
    refine J.seq rfl ?_
    refine J.region rfl ?_
    refine JO.pur rfl rfl rfl (Pur.move rfl) ?_
    refine JO.pur rfl rfl rfl (Pur.assign rfl) ?_
    refine JO.pur rfl rfl rfl (Pur.assign rfl) ?_
    refine JO.nil ?_
    refine J.ret rfl rfl ?_
    have hv : runV lay rs ss = ([], wthV lay rs ss) := by unfold runV; rw [if_pos h19']
    refine ⟨_, _, ⟨none, 0, rfl, rfl⟩, by rw [hv]; rfl, fun h s => ?_⟩
    rw [hv]; exact sl_nil_new (SubC.out h s)
  · try simp only [decide_eq_true_eq, decide_eq_false_iff_not, Bool.not_eq_true', Bool.not_eq_false', Bool.and_eq_true, Bool.or_eq_true, Bool.and_eq_false_iff, Bool.or_eq_false_iff, Option.isNone_some, Option.isSome_some, Option.isNone_none, Option.isSome_none, Int.not_lt, Int.not_le, beq_iff_eq, beq_eq_false_iff_ne, bne_iff_ne, ne_eq, Bool.not_not, Decidable.not_not] at h19
    have h19' : wthV lay rs ss = 0 := by simpa using h19
    obtain ⟨g1, g2, g3, hle, hw⟩ := wthV_ok h19'
    have hc4 := g2.2.2.2
    have hol := ord_len2 (isC lay) rs
    have hop := ord_len2 (isC lay) ss
    have hcp := g3.2.2.2
    have hfl : (offsL (isC lay) rs ss).length = cntD ss := by unfold offsL; rw [List.length_map, hop]
    have hsr := offs_sort (c := isC lay) g2.2.2.1 g3.2.2.1 hw
    have hpl : (plcs (isC lay) rs ss).length = cntD ss := by rw [← hsr, srt_len, hfl]
    refine J.condF rfl rfl ?_
    refine J.skip rfl ?_
    refine J.seq rfl ?_
    refine J.region rfl ?_
    refine JO.pur rfl rfl rfl (Pur.move rfl) ?_
    refine JO.pur rfl rfl rfl (Pur.loadA rfl rfl rfl CellsIn.blk) ?_
    refine JO.pur rfl rfl rfl (Pur.loadA rfl rfl rfl CellsIn.blk) ?_
    refine JO.eff rfl rfl rfl (Eff.call rfl (loffsets (rs := rs) (ss := ss) rfl rfl g2 g3)) ?_
    rintro _ _ ⟨a24, c24, rfl, rfl⟩
    refine JO.pur rfl rfl rfl (Pur.assign rfl) ?_
    refine JO.nil ?_
    refine J.seq rfl ?_
    refine J.region rfl ?_
    refine JO.pur rfl rfl rfl (Pur.move rfl) ?_
    refine JO.eff rfl rfl rfl (Eff.call rfl (Sort_ok (xs := offsL (isC lay) rs ss) (by omega))) ?_
    rintro _ _ ⟨rfl, rfl⟩
    rw [hsr]
    refine JO.nil ?_
    refine J.seq rfl ?_
    refine J.region rfl ?_
    refine JO.pur rfl rfl rfl (Pur.assign rfl) ?_
    refine JO.nil ?_
    refine J.seq rfl ?_
    refine J.seq rfl ?_
    refine J.region rfl ?_
    refine JO.pur rfl rfl rfl (Pur.move rfl) ?_
    refine JO.pur rfl rfl rfl (Pur.len rfl) ?_
    refine JO.pur rfl rfl rfl (Pur.move rfl) ?_
    refine JO.nil ?_
    refine J.block rfl ?_
    refine J.loopF (ι := Nat × Option Addr × Nat) (fun q => q.1 ≤ (plcs (isC lay) rs ss).length) (fun q => [(10, .slice q.2.1 (runsOf ((plcs (isC lay) rs ss).take q.1)).length q.2.2), (29, .int .i64 (q.1 : Int))]) [(27, _), (28, _)] (fun q => sl pairE q.2.1 q.2.2 (runsOf ((plcs (isC lay) rs ss).take q.1)) :: sl intE a24 c24 (plcs (isC lay) rs ss) :: L) (fun q => (plcs (isC lay) rs ss).length - q.1) (0, none, 0) rfl (.cons rfl rfl (.cons rfl rfl .nil)) (.cons rfl rfl (.cons rfl rfl .nil)) (fun h s => by have s2 := sl_nil_new (E := pairE) s; dsimp only; rw [List.take_zero, show runsOf [] = [] from rfl]; exact SubC.out (L := sl pairE none 0 [] :: _) h s2) (Nat.zero_le _) ?_
    rintro ⟨k, a0, c0⟩ hk ih0
    try dsimp only
    dsimp only at hk
    refine J.seq rfl ?_
    refine J.region rfl ?_
    refine JO.pur rfl rfl rfl (Pur.lss rfl rfl) ?_
    refine JO.nil ?_
    refine J.seq rfl ?_
    refine J.splitB 30 rfl (fun h30 => ?_) (fun h30 => ?_)
    · try simp only [decide_eq_true_eq, decide_eq_false_iff_not, Bool.not_eq_true', Bool.not_eq_false', Bool.and_eq_true, Bool.or_eq_true, Bool.and_eq_false_iff, Bool.or_eq_false_iff, Option.isNone_some, Option.isSome_some, Option.isNone_none, Option.isSome_none, Int.not_lt, Int.not_le, beq_iff_eq, beq_eq_false_iff_ne, bne_iff_ne, ne_eq, Bool.not_not, Decidable.not_not] at h30
      have hkl : k < (plcs (isC lay) rs ss).length := by omega
      obtain ⟨z, hz⟩ : ∃ z, (plcs (isC lay) rs ss)[k]? = some z := ⟨_, List.getElem?_eq_getElem hkl⟩
      have hzb := plcs_bnd (List.mem_of_getElem? hz)
      have htk : (plcs (isC lay) rs ss).take (k + 1) = (plcs (isC lay) rs ss).take k ++ [z] := by rw [List.take_add_one, hz]; rfl
      have hrl : (runsOf ((plcs (isC lay) rs ss).take k)).length ≤ k := Nat.le_trans (runsOf_len _) (by rw [List.length_take]; omega)
      have hst : (runsOf ((plcs (isC lay) rs ss).take (k + 1))) = runStep (runsOf ((plcs (isC lay) rs ss).take k)) z := by rw [htk, runsOf_snoc]
      refine J.condT rfl rfl ?_
      refine J.skip rfl ?_
      refine J.seq rfl ?_
      refine J.block rfl ?_
      refine J.seq rfl ?_
      refine J.region rfl ?_
      refine JO.pur rfl rfl rfl (Pur.idx rfl rfl rfl (by first | rfl | (simp; done) | omega) rfl (by omega)) ?_
      refine JO.pur rfl rfl rfl (Pur.load rfl (CellIn.el0 rfl hz rfl)) ?_
      refine JO.pur rfl rfl rfl (Pur.assign rfl) ?_
      refine JO.nil ?_
      refine J.seq rfl ?_
      refine J.seq rfl ?_
      refine J.region rfl ?_
      refine JO.pur rfl rfl rfl (Pur.move rfl) ?_
      refine JO.pur rfl rfl rfl (Pur.len rfl) ?_
      refine JO.pur rfl rfl rfl (Pur.sub rfl rfl (wr64 (by omega))) ?_
      refine JO.pur rfl rfl rfl (Pur.assign rfl) ?_
      refine JO.nil ?_
      refine J.seq rfl ?_
      refine J.quiet rfl Try.mixed (by kernel_rfl) ?_
      refine JQ.pur rfl rfl rfl (Pur.move rfl) ?_
      refine JQ.pur rfl rfl rfl (Pur.geq rfl rfl) ?_
      refine JQ.pur rfl rfl rfl (Pur.move rfl) ?_
      refine JQ.splitB 38 rfl (fun h38 => ?_) (fun h38 => ?_)
      · try simp only [decide_eq_true_eq, decide_eq_false_iff_not, Bool.not_eq_true', Bool.not_eq_false', Bool.and_eq_true, Bool.or_eq_true, Bool.and_eq_false_iff, Bool.or_eq_false_iff, Option.isNone_some, Option.isSome_some, Option.isNone_none, Option.isSome_none, Int.not_lt, Int.not_le, beq_iff_eq, beq_eq_false_iff_ne, bne_iff_ne, ne_eq, Bool.not_not, Decidable.not_not] at h38
        have hrp : 0 < (runsOf ((plcs (isC lay) rs ss).take k)).length := by omega
        obtain ⟨p, hp⟩ : ∃ p, (runsOf ((plcs (isC lay) rs ss).take k))[((runsOf ((plcs (isC lay) rs ss).take k)).length - 1)]? = some p := ⟨_, List.getElem?_eq_getElem (by omega)⟩
        have hpb := runs_bnd (l := (plcs (isC lay) rs ss).take k) (lo := 0) (hi := 4096) (fun n hn => by have := plcs_bnd (List.mem_of_mem_take hn); omega) (List.mem_of_getElem? hp)
        rw [List.length_take] at hpb
        have hlk : ((runsOf ((plcs (isC lay) rs ss).take k)).length : Int) - 1 = ((((runsOf ((plcs (isC lay) rs ss).take k)).length - 1) : Nat) : Int) := by omega
        refine JQ.pur rfl rfl rfl (Pur.move rfl) ?_
        refine JQ.pur rfl rfl rfl (Pur.move rfl) ?_
        refine JQ.pur rfl rfl rfl (Pur.idx rfl rfl rfl (by first | rfl | (simp; done) | omega) hlk (by omega)) ?_
        refine JQ.pur rfl rfl rfl (Pur.idxA (k := 0) rfl rfl rfl (by decide)) ?_
        refine JQ.pur rfl rfl rfl (Pur.load rfl (CellIn.el rfl hp rfl)) ?_
        refine JQ.pur rfl rfl rfl (Pur.move rfl) ?_
        refine JQ.pur rfl rfl rfl (Pur.move rfl) ?_
        refine JQ.pur rfl rfl rfl (Pur.idx rfl rfl rfl (by first | rfl | (simp; done) | omega) hlk (by omega)) ?_
        refine JQ.pur rfl rfl rfl (Pur.idxA (k := 1) rfl rfl rfl (by decide)) ?_
        refine JQ.pur rfl rfl rfl (Pur.load rfl (CellIn.el rfl hp rfl)) ?_
        refine JQ.pur rfl rfl rfl (Pur.add rfl rfl (wr64 (by omega))) ?_
        refine JQ.pur rfl rfl rfl (Pur.move rfl) ?_
        refine JQ.pur rfl rfl rfl (Pur.eqlI rfl rfl) ?_
        refine JQ.pur rfl rfl rfl (Pur.pickT rfl rfl) ?_
        refine JQ.nil ?_
        refine J.splitB 52 rfl (fun h52 => ?_) (fun h52 => ?_)
        · try simp only [decide_eq_true_eq, decide_eq_false_iff_not, Bool.not_eq_true', Bool.not_eq_false', Bool.and_eq_true, Bool.or_eq_true, Bool.and_eq_false_iff, Bool.or_eq_false_iff, Option.isNone_some, Option.isSome_some, Option.isNone_none, Option.isSome_none, Int.not_lt, Int.not_le, beq_iff_eq, beq_eq_false_iff_ne, bne_iff_ne, ne_eq, Bool.not_not, Decidable.not_not] at h52
          have hst2 := runStep_hit hp (by simpa using h52 : p.1 + p.2 = z)
          refine J.condT rfl rfl ?_
          refine J.seq rfl ?_
          refine J.mask0 (n := 9) [8] rfl Try.mixed rfl (by kernel_rfl) ?_
          refine JM.take 0 (fun _ h => h) rfl (by kernel_rfl) rfl rfl rfl (m' := 1) rfl (Pur.move rfl) ?_
          refine JM.take 1 (fun _ h => h) rfl (by kernel_rfl) rfl rfl rfl (m' := 3) rfl (Pur.move rfl) ?_
          refine JM.take 2 (fun _ h => h) rfl (by kernel_rfl) rfl rfl rfl (m' := 7) rfl (Pur.idx rfl rfl rfl (by first | rfl | (simp; done) | omega) hlk (by omega)) ?_
          refine JM.take 3 (fun _ h => h) rfl (by kernel_rfl) rfl rfl rfl (m' := 15) rfl (Pur.idxA (k := 1) rfl rfl rfl (by decide)) ?_
          refine JM.take 4 (fun _ h => h) rfl (by kernel_rfl) rfl rfl rfl (m' := 31) rfl (Pur.load rfl (CellIn.el rfl hp rfl)) ?_
          refine JM.take 5 (fun _ h => h) rfl (by kernel_rfl) rfl rfl rfl (m' := 63) rfl (Pur.add rfl rfl (wr64 (by omega))) ?_
          refine JM.take 6 (fun _ h => h) rfl (by kernel_rfl) rfl rfl rfl (m' := 127) rfl (Pur.idx rfl rfl rfl (by first | rfl | (simp; done) | omega) hlk (by omega)) ?_
          refine JM.take 7 (fun _ h => h) rfl (by kernel_rfl) rfl rfl rfl (m' := 255) rfl (Pur.idxA (k := 1) rfl rfl rfl (by decide)) ?_
          refine JM.one (i := 8) (by kernel_rfl) ?_
          refine JMi.effN rfl rfl rfl (m' := 511) rfl (Eff.storeS (z' := (p.1, p.2 + 1)) rfl rfl rfl rfl hp (.tail .head)) ?_
          rintro _ _ ⟨rfl, rfl⟩
          refine ⟨.inl (by simp), ?_⟩
          refine JM.done rfl ?_
          refine J.exit rfl rfl ?_
          refine J.region rfl ?_
          refine JO.pur rfl rfl rfl (Pur.add rfl rfl (wr64 (by omega))) ?_
          refine JO.pur rfl rfl rfl (Pur.move rfl) ?_
          refine JO.nil ?_
          exact J.weaken (.cons rfl (by dsimp only; rw [hst, hst2]; simp) (.cons rfl (congrArg (Value.int .i64) (by first | rfl | (dsimp only; omega))) (.cons rfl rfl (.cons rfl rfl .nil)))) (fun h s => by dsimp only; rw [hst, hst2]; exact SubC.out h s) (ih0 (k + 1, a0, c0) (by dsimp only; omega) (by dsimp only; omega))
        · try simp only [decide_eq_true_eq, decide_eq_false_iff_not, Bool.not_eq_true', Bool.not_eq_false', Bool.and_eq_true, Bool.or_eq_true, Bool.and_eq_false_iff, Bool.or_eq_false_iff, Option.isNone_some, Option.isSome_some, Option.isNone_none, Option.isSome_none, Int.not_lt, Int.not_le, beq_iff_eq, beq_eq_false_iff_ne, bne_iff_ne, ne_eq, Bool.not_not, Decidable.not_not] at h52
          have hst2 := runStep_new hp (by simpa using h52 : ¬ p.1 + p.2 = z)
          refine J.condF rfl rfl ?_
          refine J.skip rfl ?_
          refine J.region rfl ?_
          refine JO.pur rfl rfl rfl (Pur.move rfl) ?_
          refine JO.pur rfl rfl rfl (Pur.move rfl) ?_
          refine JO.pur rfl rfl rfl (Pur.build (cs := [_, _]) rfl rfl) ?_
          refine JO.eff rfl rfl rfl (Eff.buildSlice pairE [(z, 1)] rfl rfl rfl rfl rfl rfl rfl) ?_
          rintro _ _ ⟨b64, rfl, -, rfl⟩
          refine JO.eff rfl rfl rfl (Eff.append rfl rfl rfl rfl (by first | rfl | omega | (simp; done) | (simp; omega)) (by first | rfl | omega | (simp; done) | (simp; omega)) (by decide) (by first | omega | (simp only [List.length_cons, List.length_nil]; omega) | (simp; omega)) (by first | omega | (simp only [List.length_cons, List.length_nil]; omega) | (simp; omega)) (fun h => by cases h)) ?_
          rintro _ _ ⟨a65, c65, rfl, rfl⟩
          refine JO.pur rfl rfl rfl (Pur.assign rfl) ?_
          refine JO.nil ?_
          refine J.inBlock ?_
          refine J.region rfl ?_
          refine JO.pur rfl rfl rfl (Pur.add rfl rfl (wr64 (by omega))) ?_
          refine JO.pur rfl rfl rfl (Pur.move rfl) ?_
          refine JO.nil ?_
          exact J.weaken (.cons rfl (by dsimp only; rw [hst, hst2]; simp) (.cons rfl (congrArg (Value.int .i64) (by first | rfl | (dsimp only; omega))) (.cons rfl rfl (.cons rfl rfl .nil)))) (fun h s => by dsimp only; rw [hst, hst2]; exact SubC.out h s) (ih0 (k + 1, a65, c65) (by dsimp only; omega) (by dsimp only; omega))
      · try simp only [decide_eq_true_eq, decide_eq_false_iff_not, Bool.not_eq_true', Bool.not_eq_false', Bool.and_eq_true, Bool.or_eq_true, Bool.and_eq_false_iff, Bool.or_eq_false_iff, Option.isNone_some, Option.isSome_some, Option.isNone_none, Option.isSome_none, Int.not_lt, Int.not_le, beq_iff_eq, beq_eq_false_iff_ne, bne_iff_ne, ne_eq, Bool.not_not, Decidable.not_not] at h38
        have hrz : (runsOf ((plcs (isC lay) rs ss).take k)).length = 0 := by omega
        have hst2 := runStep_nil (n := z) hrz
        refine JQ.no rfl rfl rfl ?_
        refine JQ.no rfl rfl rfl ?_
        refine JQ.no rfl rfl rfl ?_
        refine JQ.no rfl rfl rfl ?_
        refine JQ.no rfl rfl rfl ?_
        refine JQ.no rfl rfl rfl ?_
        refine JQ.no rfl rfl rfl ?_
        refine JQ.no rfl rfl rfl ?_
        refine JQ.no rfl rfl rfl ?_
        refine JQ.no rfl rfl rfl ?_
        refine JQ.no rfl rfl rfl ?_
        refine JQ.no rfl rfl rfl ?_
        refine JQ.no rfl rfl rfl ?_
        refine JQ.pur rfl rfl rfl (Pur.pickF rfl rfl) ?_
        refine JQ.nil ?_
        refine J.condF rfl rfl ?_
        refine J.skip rfl ?_
        refine J.region rfl ?_
        refine JO.pur rfl rfl rfl (Pur.move rfl) ?_
        refine JO.pur rfl rfl rfl (Pur.move rfl) ?_
        refine JO.pur rfl rfl rfl (Pur.build (cs := [_, _]) rfl rfl) ?_
        refine JO.eff rfl rfl rfl (Eff.buildSlice pairE [(z, 1)] rfl rfl rfl rfl rfl rfl rfl) ?_
        rintro _ _ ⟨b64, rfl, -, rfl⟩
        refine JO.eff rfl rfl rfl (Eff.append rfl rfl rfl rfl (by first | rfl | omega | (simp; done) | (simp; omega)) (by first | rfl | omega | (simp; done) | (simp; omega)) (by decide) (by first | omega | (simp only [List.length_cons, List.length_nil]; omega) | (simp; omega)) (by first | omega | (simp only [List.length_cons, List.length_nil]; omega) | (simp; omega)) (fun h => by cases h)) ?_
        rintro _ _ ⟨a65, c65, rfl, rfl⟩
        refine JO.pur rfl rfl rfl (Pur.assign rfl) ?_
        refine JO.nil ?_
        refine J.inBlock ?_
        refine J.region rfl ?_
        refine JO.pur rfl rfl rfl (Pur.add rfl rfl (wr64 (by omega))) ?_
        refine JO.pur rfl rfl rfl (Pur.move rfl) ?_
        refine JO.nil ?_
        exact J.weaken (.cons rfl (by dsimp only; rw [hst, hst2]; simp) (.cons rfl (congrArg (Value.int .i64) (by first | rfl | (dsimp only; omega))) (.cons rfl rfl (.cons rfl rfl .nil)))) (fun h s => by dsimp only; rw [hst, hst2]; exact SubC.out h s) (ih0 (k + 1, a65, c65) (by dsimp only; omega) (by dsimp only; omega))
    · try simp only [decide_eq_true_eq, decide_eq_false_iff_not, Bool.not_eq_true', Bool.not_eq_false', Bool.and_eq_true, Bool.or_eq_true, Bool.and_eq_false_iff, Bool.or_eq_false_iff, Option.isNone_some, Option.isSome_some, Option.isNone_none, Option.isSome_none, Int.not_lt, Int.not_le, beq_iff_eq, beq_eq_false_iff_ne, bne_iff_ne, ne_eq, Bool.not_not, Decidable.not_not] at h30
      refine J.condF rfl rfl ?_
      refine J.exit rfl rfl ?_
      refine J.seq rfl ?_
      refine J.region rfl ?_
      refine JO.pur rfl rfl rfl (Pur.move rfl) ?_
      refine JO.pur rfl rfl rfl (Pur.assign rfl) ?_
      refine JO.pur rfl rfl rfl (Pur.assign rfl) ?_
      refine JO.nil ?_
      refine J.ret rfl rfl ?_
      have hke : k = (plcs (isC lay) rs ss).length := by omega
      have hv : runV lay rs ss = (runsOf (plcs (isC lay) rs ss), 0) := by unfold runV; rw [if_neg (not_not_intro h19')]
      refine ⟨_, _, ⟨a0, c0, rfl, rfl⟩, by rw [hv, hke, List.take_length]; rfl, fun h s => ?_⟩
      rw [hke, List.take_length] at s
      rw [hv]
      exact SubC.out h s

end Go.Proofs.Ytnhippfllgnngaa
