/-
  A part of the proof of the claim that this folder bears.
-/
import Derived.Test.YtgbckamaenapeaaPAD
/- The text HChan. -/
set_option linter.unusedVariables false
set_option linter.unusedSimpArgs false
set_option maxRecDepth 10000
namespace Go.Proofs.Ytgbckamaenapeaa
open Go Go.KK Hf

theorem ents_inv {rs : List Cr} {cs : List Ch} (hr : rs.length = cs.length) {j : Nat} {kk : Int} {vv : Value} (h : (entsC rs cs)[j]? = some (kk, vv)) : ∃ r c, rs[j]? = some r ∧ cs[j]? = some c ∧ kk = c.num ∧ vv = .pointer (some ⟨r.b, 0, none⟩) ∧ j < cs.length := by
  unfold entsC at h
  rw [List.getElem?_zipWith] at h
  cases hx : rs[j]? with
  | none => rw [hx] at h; cases h
  | some r =>
    cases hy : cs[j]? with
    | none => rw [hx, hy] at h; cases h
    | some c =>
      rw [hx, hy] at h
      simp only [Option.some.injEq] at h
      unfold ent at h
      cases h
      exact ⟨r, c, rfl, rfl, rfl, rfl, (List.getElem?_eq_some_iff.1 hy).1⟩
theorem nodup_le : ∀ (n : Nat) (l : List Nat), l.Nodup → (∀ x ∈ l, x < n) → l.length ≤ n
  | 0, l, _, h => by
    cases l with
    | nil => simp
    | cons x r => have := h x (by simp); omega
  | n + 1, l, hn, h => by
    have ih := nodup_le n (l.erase n) (hn.erase n) (fun x hx => by
      have h1 := h x (List.mem_of_mem_erase hx)
      have h2 : x ≠ n := fun e => by subst e; exact (List.Nodup.not_mem_erase hn) hx
      omega)
    by_cases hm : n ∈ l
    · have := List.length_erase_of_mem hm; omega
    · rw [List.erase_of_not_mem hm] at ih; omega
theorem look_new {F : Fl} {k : Nat} {rs : List Cr} (g : Hf.Good F k) (hr : rs.length = F.opens.length) : alook (entsC rs F.opens) F.next = none := by
  refine look_no hr ?_
  unfold ix
  rw [List.findIdx?_eq_none_iff]
  intro c hc
  have := (g.lt c hc).2
  simp; omega
theorem aset_new {F : Fl} {k : Nat} {rs : List Cr} (g : Hf.Good F k) (hr : rs.length = F.opens.length) (v : Value) : aset (entsC rs F.opens) F.next v = entsC rs F.opens ++ [(F.next, v)] := by
  unfold aset; rw [look_new g hr]; rfl
theorem New_ok {L : List Asn} {b : Option Addr} {m cq : Nat} {ys : List UInt8} [SlIn byE L b ys] (hm : m = ys.length) (hb : ys.length ≤ 400) (hnil : b = none → m = 0 ∧ cq = 0) :
    CallS Try.prog 17 [.slice b m cq].toArray L (fun v M => ∃ p, v = .tuple #[.pointer (some ⟨p, 0, none⟩), .int .i64 0] ∧ M = FA p (newF ys) :: L) := by
  subst hm
  refine CallS.ent ?_
  refine CallS.enter Try.func17 rfl rfl rfl rfl rfl ?_
  refine J.seq rfl ?_
  refine J.region rfl ?_
  refine JO.pur rfl rfl rfl (Pur.assign rfl) ?_
  refine JO.pur rfl rfl rfl (Pur.assign rfl) ?_
  refine JO.nil ?_
  refine J.seq rfl ?_
  refine J.seq rfl ?_
  refine J.region rfl ?_
  refine JO.pur rfl rfl rfl (Pur.move rfl) ?_
  refine JO.pur rfl rfl rfl (Pur.len rfl) ?_
  refine JO.pur rfl rfl rfl (Pur.gtr rfl rfl) ?_
  refine JO.setv (u' := .bool false) 6 rfl (congrArg Value.bool (decide_eq_false (by omega))) ?_
  refine JO.nil ?_
  refine J.condF rfl rfl ?_
  refine J.skip rfl ?_
  refine J.seq rfl ?_
  refine J.region rfl ?_
  refine JO.pur rfl rfl rfl (Pur.move rfl) ?_
  refine JO.eff rfl rfl rfl (Eff.call rfl (cloneB (xs := ys) rfl (by omega) hnil)) ?_
  rintro _ _ ⟨a8, c8, ⟨rfl, -⟩, rfl⟩
  refine JO.eff rfl rfl rfl (Eff.makeMap intK) ?_
  rintro _ _ ⟨b9, rfl, rfl⟩
  refine JO.pur rfl rfl rfl (Pur.build (cs := [_, _, _, _]) rfl rfl) ?_
  refine JO.eff rfl rfl rfl (Eff.box (cs := [_, _, _, _]) rfl rfl) ?_
  rintro _ _ ⟨b11, rfl, rfl⟩
  refine JO.pur rfl rfl rfl (Pur.assign rfl) ?_
  refine JO.pur rfl rfl rfl (Pur.assign rfl) ?_
  refine JO.nil ?_
  refine J.ret rfl rfl ?_
  refine ⟨_, _, ⟨b11, rfl, rfl⟩, rfl, fun h s => ?_⟩
  refine FA_mk (F := newF ys) (ab := a8) (cb := c8) (mb := b9) (rs := []) rfl ?_
  have s2 : Sat h (star (chL [] []) :: _) := star_nil s
  show Sat h (blk b11 (.cells #[.bool true, .slice a8 ys.length c8, .int .i64 1, .map (some b9)] 62) :: sl byE a8 c8 ys :: mp intK b9 [] :: star (chL [] []) :: L)
  exact SubC.out h s2

theorem New_big {L : List Asn} {b : Option Addr} {m cq : Nat} {ys : List UInt8} [SlIn byE L b ys] (hm : m = ys.length) (hb : ¬ ys.length ≤ 400) :
    CallS Try.prog 17 [.slice b m cq].toArray L (fun v M => v = .tuple #[.pointer none, .int .i64 2] ∧ M = L) := by
  subst hm
  refine CallS.enter Try.func17 rfl rfl rfl rfl rfl ?_
  refine J.seq rfl ?_
  refine J.region rfl ?_
  refine JO.pur rfl rfl rfl (Pur.assign rfl) ?_
  refine JO.pur rfl rfl rfl (Pur.assign rfl) ?_
  refine JO.nil ?_
  refine J.seq rfl ?_
  refine J.seq rfl ?_
  refine J.region rfl ?_
  refine JO.pur rfl rfl rfl (Pur.move rfl) ?_
  refine JO.pur rfl rfl rfl (Pur.len rfl) ?_
  refine JO.pur rfl rfl rfl (Pur.gtr rfl rfl) ?_
  refine JO.setv (u' := .bool true) 6 rfl (congrArg Value.bool (decide_eq_true (by omega))) ?_
  refine JO.nil ?_
  refine J.condT rfl rfl ?_
  refine J.seq rfl ?_
  refine J.region rfl ?_
  refine JO.pur rfl rfl rfl (Pur.assign rfl) ?_
  refine JO.pur rfl rfl rfl (Pur.assign rfl) ?_
  refine JO.nil ?_
  refine J.ret rfl rfl ?_
  exact ⟨rfl, rfl⟩

theorem channel_ok {L : List Asn} {p : Nat} {F : Fl} {fr to : Int} {wr : Bool} {k : Nat} (g : Hf.Good F k) (hk : k ≤ 100000) :
    CallS Try.prog 38 [.pointer (some ⟨p, 0, none⟩), .int .i64 fr, .int .i64 to, .bool wr].toArray (FA p F :: L) (fun v M => v = .tuple #[.int .i64 (beginF F fr to wr).2.1, .int .i64 (beginF F fr to wr).2.2] ∧ M = FA p (beginF F fr to wr).1 :: L) := by
  have gn := g.nk
  have gn1 := g.n1
  refine CallS.ent ?_
  refine CallS.enter Try.func38 rfl rfl rfl rfl rfl ?_
  refine J.seq rfl ?_
  refine FA_open fun ab cb mb rs hr => ?_
  refine J.region rfl ?_
  refine JO.pur rfl rfl rfl (Pur.assign rfl) ?_
  refine JO.pur rfl rfl rfl (Pur.assign rfl) ?_
  refine JO.nil ?_
  refine J.seq rfl ?_
  refine J.block rfl ?_
  refine J.seq rfl ?_
  refine J.region rfl ?_
  refine JO.pur rfl rfl rfl (Pur.move rfl) ?_
  refine JO.effR rfl rfl rfl (Eff.call rfl (none_ok)) ?_
  refine JO.setv (u' := .bool false) 14 rfl (congrArg Value.bool (rfl)) ?_
  refine JO.pur rfl rfl rfl (Pur.assign rfl) ?_
  refine JO.nil ?_
  refine J.condF rfl rfl ?_
  refine J.seq rfl ?_
  refine J.region rfl ?_
  refine JO.pur rfl rfl rfl (Pur.move rfl) ?_
  refine JO.pur rfl rfl rfl (Pur.lss rfl rfl) ?_
  refine JO.pur rfl rfl rfl (Pur.move rfl) ?_
  refine JO.splitB 18 rfl (fun h18 => ?_) (fun h18 => ?_)
  · try simp only [decide_eq_true_eq, decide_eq_false_iff_not, Bool.not_eq_true', Bool.not_eq_false', Bool.and_eq_true, Bool.or_eq_true, Bool.and_eq_false_iff, Bool.or_eq_false_iff, Option.isNone_some, Option.isSome_some, Option.isNone_none, Option.isSome_none, Int.not_lt, Int.not_le, beq_iff_eq, beq_eq_false_iff_ne, bne_iff_ne, ne_eq, Bool.not_not, Decidable.not_not] at h18
    refine JO.no rfl rfl rfl ?_
    refine JO.no rfl rfl rfl ?_
    refine JO.no rfl rfl rfl ?_
    refine JO.pur rfl rfl rfl (Pur.pickT rfl rfl) ?_
    refine JO.pur rfl rfl rfl (Pur.move rfl) ?_
    refine JO.no rfl rfl rfl ?_
    refine JO.no rfl rfl rfl ?_
    refine JO.pur rfl rfl rfl (Pur.pickT rfl rfl) ?_
    refine JO.pur rfl rfl rfl (Pur.assign rfl) ?_
    refine JO.nil ?_
    refine J.condT rfl rfl ?_
    refine J.seq rfl ?_
    refine J.region rfl ?_
    refine JO.pur rfl rfl rfl (Pur.assign rfl) ?_
    refine JO.pur rfl rfl rfl (Pur.assign rfl) ?_
    refine JO.nil ?_
    refine J.ret rfl rfl ?_
    have hbad : fr < 0 ∨ to < fr ∨ 400 < to := by omega
    have hv : (beginF F fr to wr) = (F, 0, 2) := by unfold beginF; rw [if_pos hbad]
    refine ⟨_, _, ⟨rfl, rfl⟩, by rw [hv]; rfl, fun h s => ?_⟩
    rw [hv]
    exact FA_mk (ab := ab) (cb := cb) (mb := mb) hr (SubC.out h s)
  · try simp only [decide_eq_true_eq, decide_eq_false_iff_not, Bool.not_eq_true', Bool.not_eq_false', Bool.and_eq_true, Bool.or_eq_true, Bool.and_eq_false_iff, Bool.or_eq_false_iff, Option.isNone_some, Option.isSome_some, Option.isNone_none, Option.isSome_none, Int.not_lt, Int.not_le, beq_iff_eq, beq_eq_false_iff_ne, bne_iff_ne, ne_eq, Bool.not_not, Decidable.not_not] at h18
    refine JO.pur rfl rfl rfl (Pur.move rfl) ?_
    refine JO.pur rfl rfl rfl (Pur.move rfl) ?_
    refine JO.pur rfl rfl rfl (Pur.gtr rfl rfl) ?_
    refine JO.pur rfl rfl rfl (Pur.pickF rfl rfl) ?_
    refine JO.pur rfl rfl rfl (Pur.move rfl) ?_
    refine JO.splitB 23 rfl (fun h23 => ?_) (fun h23 => ?_)
    · try simp only [decide_eq_true_eq, decide_eq_false_iff_not, Bool.not_eq_true', Bool.not_eq_false', Bool.and_eq_true, Bool.or_eq_true, Bool.and_eq_false_iff, Bool.or_eq_false_iff, Option.isNone_some, Option.isSome_some, Option.isNone_none, Option.isSome_none, Int.not_lt, Int.not_le, beq_iff_eq, beq_eq_false_iff_ne, bne_iff_ne, ne_eq, Bool.not_not, Decidable.not_not] at h23
      refine JO.no rfl rfl rfl ?_
      refine JO.no rfl rfl rfl ?_
      refine JO.pur rfl rfl rfl (Pur.pickT rfl rfl) ?_
      refine JO.pur rfl rfl rfl (Pur.assign rfl) ?_
      refine JO.nil ?_
      refine J.condT rfl rfl ?_
      refine J.seq rfl ?_
      refine J.region rfl ?_
      refine JO.pur rfl rfl rfl (Pur.assign rfl) ?_
      refine JO.pur rfl rfl rfl (Pur.assign rfl) ?_
      refine JO.nil ?_
      refine J.ret rfl rfl ?_
      have hbad : fr < 0 ∨ to < fr ∨ 400 < to := by omega
      have hv : (beginF F fr to wr) = (F, 0, 2) := by unfold beginF; rw [if_pos hbad]
      refine ⟨_, _, ⟨rfl, rfl⟩, by rw [hv]; rfl, fun h s => ?_⟩
      rw [hv]
      exact FA_mk (ab := ab) (cb := cb) (mb := mb) hr (SubC.out h s)
    · try simp only [decide_eq_true_eq, decide_eq_false_iff_not, Bool.not_eq_true', Bool.not_eq_false', Bool.and_eq_true, Bool.or_eq_true, Bool.and_eq_false_iff, Bool.or_eq_false_iff, Option.isNone_some, Option.isSome_some, Option.isNone_none, Option.isSome_none, Int.not_lt, Int.not_le, beq_iff_eq, beq_eq_false_iff_ne, bne_iff_ne, ne_eq, Bool.not_not, Decidable.not_not] at h23
      refine JO.pur rfl rfl rfl (Pur.move rfl) ?_
      refine JO.pur rfl rfl rfl (Pur.gtr rfl rfl) ?_
      refine JO.pur rfl rfl rfl (Pur.pickF rfl rfl) ?_
      refine JO.pur rfl rfl rfl (Pur.assign rfl) ?_
      refine JO.nil ?_
      refine J.splitB 15 rfl (fun h15 => ?_) (fun h15 => ?_)
      · try simp only [decide_eq_true_eq, decide_eq_false_iff_not, Bool.not_eq_true', Bool.not_eq_false', Bool.and_eq_true, Bool.or_eq_true, Bool.and_eq_false_iff, Bool.or_eq_false_iff, Option.isNone_some, Option.isSome_some, Option.isNone_none, Option.isSome_none, Int.not_lt, Int.not_le, beq_iff_eq, beq_eq_false_iff_ne, bne_iff_ne, ne_eq, Bool.not_not, Decidable.not_not] at h15
        refine J.condT rfl rfl ?_
        refine J.seq rfl ?_
        refine J.region rfl ?_
        refine JO.pur rfl rfl rfl (Pur.assign rfl) ?_
        refine JO.pur rfl rfl rfl (Pur.assign rfl) ?_
        refine JO.nil ?_
        refine J.ret rfl rfl ?_
        have hbad : fr < 0 ∨ to < fr ∨ 400 < to := by omega
        have hv : (beginF F fr to wr) = (F, 0, 2) := by unfold beginF; rw [if_pos hbad]
        refine ⟨_, _, ⟨rfl, rfl⟩, by rw [hv]; rfl, fun h s => ?_⟩
        rw [hv]
        exact FA_mk (ab := ab) (cb := cb) (mb := mb) hr (SubC.out h s)
      · try simp only [decide_eq_true_eq, decide_eq_false_iff_not, Bool.not_eq_true', Bool.not_eq_false', Bool.and_eq_true, Bool.or_eq_true, Bool.and_eq_false_iff, Bool.or_eq_false_iff, Option.isNone_some, Option.isSome_some, Option.isNone_none, Option.isSome_none, Int.not_lt, Int.not_le, beq_iff_eq, beq_eq_false_iff_ne, bne_iff_ne, ne_eq, Bool.not_not, Decidable.not_not] at h15
        refine J.condF rfl rfl ?_
        refine J.skip rfl ?_
        refine J.inBlock ?_
        refine J.seq rfl ?_
        refine J.seq rfl ?_
        refine J.region rfl ?_
        refine JO.pur rfl rfl rfl (Pur.move rfl) ?_
        refine JO.pur rfl rfl rfl (Pur.nilCheck rfl) ?_
        refine JO.pur rfl rfl rfl (Pur.fieldAddr rfl) ?_
        refine JO.pur rfl rfl rfl (Pur.load rfl (CellIn.blk rfl)) ?_
        refine JO.eff rfl rfl rfl (Eff.range rfl) ?_
        rintro _ _ ⟨i31, rfl, rfl⟩
        refine JO.nil ?_
        refine J.block rfl ?_
        refine J.loopF (ι := List Nat) (fun q => q.Nodup ∧ (∀ j ∈ q, j < F.opens.length) ∧ ∀ j ∈ q, ∀ c, F.opens[j]? = some c → busy wr fr to c = false) (fun q => []) [(0, _), (1, _), (2, _), (3, _), (31, _)] (fun q => mpIt intK mb i31 (entsC rs F.opens) q :: blk p (.cells #[.bool true, .slice ab F.bytes.length cb, .int .i64 F.next, .map (some mb)] 62) :: sl byE ab cb F.bytes :: star (chL rs F.opens) :: L) (fun q => F.opens.length - q.length) [] rfl (.cons rfl rfl (.cons rfl rfl (.cons rfl rfl (.cons rfl rfl (.cons rfl rfl .nil))))) .nil (by first | exact fun _ h => h | exact SubC.out | (dsimp only; exact SubC.out)) ⟨List.nodup_nil, by simp, by simp⟩ ?_
        rintro S ⟨hS1, hS2, hS3⟩ ih0
        try dsimp only
        refine J.seq rfl ?_
        refine J.region rfl ?_
        refine JO.eff rfl rfl rfl (Eff.next rfl) ?_
        rintro _ _ (⟨j, kk, vv, hmj, hjS, rfl, rfl⟩ | ⟨hall, rfl, rfl⟩)
        · skip
          obtain ⟨r, c, hrg, hch, rfl, rfl, hjl⟩ := ents_inv hr hmj
          have hnd : (j :: S).Nodup := List.nodup_cons.2 ⟨hjS, hS1⟩
          have hlt2 : ∀ x ∈ j :: S, x < F.opens.length := fun x hx => by rcases List.mem_cons.1 hx with rfl | hx; exact hjl; exact hS2 x hx
          refine JO.pur rfl rfl rfl (Pur.extract rfl rfl) ?_
          refine JO.nil ?_
          refine J.seq rfl ?_
          refine J.condT rfl rfl ?_
          refine J.skip rfl ?_
          refine J.block rfl ?_
          refine J.seq rfl ?_
          refine J.region rfl ?_
          refine JO.pur rfl rfl rfl (Pur.entry rfl hmj) ?_
          refine JO.pur rfl rfl rfl (Pur.extract rfl rfl) ?_
          refine JO.setv (u' := .pointer (some ⟨r.b, 0, none⟩)) 35 rfl rfl ?_
          refine JO.pur rfl rfl rfl (Pur.assign rfl) ?_
          refine JO.nil ?_
          refine J.seq rfl ?_
          refine J.imp (fun h s => ch_take (rs := rs) (cs := F.opens) (i := j) hrg hch s) ?_
          refine J.quiet rfl Try.mixed (by kernel_rfl) ?_
          refine JQ.pur rfl rfl rfl (Pur.move rfl) ?_
          refine JQ.pur rfl rfl rfl (Pur.nilCheck rfl) ?_
          refine JQ.pur rfl rfl rfl (Pur.fieldAddr rfl) ?_
          refine JQ.pur rfl rfl rfl (Pur.load rfl (CellIn.blk rfl)) ?_
          refine JQ.pur rfl rfl rfl (Pur.move rfl) ?_
          refine JQ.splitB 40 rfl (fun h40 => ?_) (fun h40 => ?_)
          · try simp only [decide_eq_true_eq, decide_eq_false_iff_not, Bool.not_eq_true', Bool.not_eq_false', Bool.and_eq_true, Bool.or_eq_true, Bool.and_eq_false_iff, Bool.or_eq_false_iff, Option.isNone_some, Option.isSome_some, Option.isNone_none, Option.isSome_none, Int.not_lt, Int.not_le, beq_iff_eq, beq_eq_false_iff_ne, bne_iff_ne, ne_eq, Bool.not_not, Decidable.not_not] at h40
            refine JQ.no rfl rfl rfl ?_
            refine JQ.pur rfl rfl rfl (Pur.pickT rfl rfl) ?_
            refine JQ.pur rfl rfl rfl (Pur.move rfl) ?_
            refine JQ.pur rfl rfl rfl (Pur.move rfl) ?_
            refine JQ.pur rfl rfl rfl (Pur.nilCheck rfl) ?_
            refine JQ.pur rfl rfl rfl (Pur.fieldAddr rfl) ?_
            refine JQ.pur rfl rfl rfl (Pur.load rfl (CellIn.blk rfl)) ?_
            refine JQ.pur rfl rfl rfl (Pur.move rfl) ?_
            refine JQ.pur rfl rfl rfl (Pur.max2 rfl rfl) ?_
            refine JQ.pur rfl rfl rfl (Pur.move rfl) ?_
            refine JQ.pur rfl rfl rfl (Pur.nilCheck rfl) ?_
            refine JQ.pur rfl rfl rfl (Pur.fieldAddr rfl) ?_
            refine JQ.pur rfl rfl rfl (Pur.load rfl (CellIn.blk rfl)) ?_
            refine JQ.pur rfl rfl rfl (Pur.move rfl) ?_
            refine JQ.pur rfl rfl rfl (Pur.min2 rfl rfl) ?_
            refine JQ.pur rfl rfl rfl (Pur.lss rfl rfl) ?_
            refine JQ.pur rfl rfl rfl (Pur.pickT rfl rfl) ?_
            refine JQ.nil ?_
            refine J.splitB 57 rfl (fun h57 => ?_) (fun h57 => ?_)
            · try simp only [decide_eq_true_eq, decide_eq_false_iff_not, Bool.not_eq_true', Bool.not_eq_false', Bool.and_eq_true, Bool.or_eq_true, Bool.and_eq_false_iff, Bool.or_eq_false_iff, Option.isNone_some, Option.isSome_some, Option.isNone_none, Option.isSome_none, Int.not_lt, Int.not_le, beq_iff_eq, beq_eq_false_iff_ne, bne_iff_ne, ne_eq, Bool.not_not, Decidable.not_not] at h57
              refine J.condT rfl rfl ?_
              refine J.seq rfl ?_
              refine J.region rfl ?_
              refine JO.pur rfl rfl rfl (Pur.assign rfl) ?_
              refine JO.pur rfl rfl rfl (Pur.assign rfl) ?_
              refine JO.nil ?_
              refine J.ret rfl rfl ?_
              have hbc : busy wr fr to c = true := by unfold busy; simp_all
              have hany : F.opens.any (busy wr fr to) = true := List.any_eq_true.2 ⟨c, List.mem_of_getElem? hch, hbc⟩
              have hv : (beginF F fr to wr) = (F, 0, 190) := by unfold beginF; rw [if_neg (by omega), if_pos hany]
              refine ⟨_, _, ⟨rfl, rfl⟩, by rw [hv]; rfl, fun h s => ?_⟩
              rw [hv]
              have s2 := ch_put (c' := c) hrg hch s
              rw [set_same hch, set_same hrg] at s2
              have s4 : Sat h (mpIt intK mb i31 (entsC rs F.opens) (j :: S) :: blk p (.cells #[.bool true, .slice ab F.bytes.length cb, .int .i64 F.next, .map (some mb)] 62) :: sl byE ab cb F.bytes :: star (chL rs F.opens) :: L) := SubC.out h s2
              have s3 := s4.cons_imp (M := blk p (.cells #[.bool true, .slice ab F.bytes.length cb, .int .i64 F.next, .map (some mb)] 62) :: sl byE ab cb F.bytes :: star (chL rs F.opens) :: L) (fun _ h => mpIt_done h) (fun _ h => h)
              exact FA_mk (ab := ab) (cb := cb) (mb := mb) hr (SubC.out h s3)
            · try simp only [decide_eq_true_eq, decide_eq_false_iff_not, Bool.not_eq_true', Bool.not_eq_false', Bool.and_eq_true, Bool.or_eq_true, Bool.and_eq_false_iff, Bool.or_eq_false_iff, Option.isNone_some, Option.isSome_some, Option.isNone_none, Option.isSome_none, Int.not_lt, Int.not_le, beq_iff_eq, beq_eq_false_iff_ne, bne_iff_ne, ne_eq, Bool.not_not, Decidable.not_not] at h57
              refine J.condF rfl rfl ?_
              refine J.skip rfl ?_
              refine J.inBlock ?_
              have hbc : busy wr fr to c = false := by unfold busy; simp_all
              have hbz : ∀ j' ∈ j :: S, ∀ c', F.opens[j']? = some c' → busy wr fr to c' = false := fun j' hj' c' hc' => by
                rcases List.mem_cons.1 hj' with rfl | hj'
                · rw [hch] at hc'; cases hc'; exact hbc
                · exact hS3 j' hj' c' hc'
              exact J.weaken (.cons rfl rfl (.cons rfl rfl (.cons rfl rfl (.cons rfl rfl (.cons rfl rfl .nil))))) (fun h s => by have s2 := ch_put (c' := c) hrg hch s; rw [set_same hch, set_same hrg] at s2; exact SubC.out h s2) (ih0 (j :: S) ⟨hnd, hlt2, hbz⟩ (by have h7 := nodup_le _ _ hnd hlt2; simp only [List.length_cons] at h7 ⊢; omega))
          · try simp only [decide_eq_true_eq, decide_eq_false_iff_not, Bool.not_eq_true', Bool.not_eq_false', Bool.and_eq_true, Bool.or_eq_true, Bool.and_eq_false_iff, Bool.or_eq_false_iff, Option.isNone_some, Option.isSome_some, Option.isNone_none, Option.isSome_none, Int.not_lt, Int.not_le, beq_iff_eq, beq_eq_false_iff_ne, bne_iff_ne, ne_eq, Bool.not_not, Decidable.not_not] at h40
            refine JQ.pur rfl rfl rfl (Pur.move rfl) ?_
            refine JQ.pur rfl rfl rfl (Pur.pickF rfl rfl) ?_
            refine JQ.pur rfl rfl rfl (Pur.move rfl) ?_
            refine JQ.splitB 43 rfl (fun h43 => ?_) (fun h43 => ?_)
            · try simp only [decide_eq_true_eq, decide_eq_false_iff_not, Bool.not_eq_true', Bool.not_eq_false', Bool.and_eq_true, Bool.or_eq_true, Bool.and_eq_false_iff, Bool.or_eq_false_iff, Option.isNone_some, Option.isSome_some, Option.isNone_none, Option.isSome_none, Int.not_lt, Int.not_le, beq_iff_eq, beq_eq_false_iff_ne, bne_iff_ne, ne_eq, Bool.not_not, Decidable.not_not] at h43
              refine JQ.pur rfl rfl rfl (Pur.move rfl) ?_
              refine JQ.pur rfl rfl rfl (Pur.nilCheck rfl) ?_
              refine JQ.pur rfl rfl rfl (Pur.fieldAddr rfl) ?_
              refine JQ.pur rfl rfl rfl (Pur.load rfl (CellIn.blk rfl)) ?_
              refine JQ.pur rfl rfl rfl (Pur.move rfl) ?_
              refine JQ.pur rfl rfl rfl (Pur.max2 rfl rfl) ?_
              refine JQ.pur rfl rfl rfl (Pur.move rfl) ?_
              refine JQ.pur rfl rfl rfl (Pur.nilCheck rfl) ?_
              refine JQ.pur rfl rfl rfl (Pur.fieldAddr rfl) ?_
              refine JQ.pur rfl rfl rfl (Pur.load rfl (CellIn.blk rfl)) ?_
              refine JQ.pur rfl rfl rfl (Pur.move rfl) ?_
              refine JQ.pur rfl rfl rfl (Pur.min2 rfl rfl) ?_
              refine JQ.pur rfl rfl rfl (Pur.lss rfl rfl) ?_
              refine JQ.pur rfl rfl rfl (Pur.pickT rfl rfl) ?_
              refine JQ.nil ?_
              refine J.splitB 57 rfl (fun h57 => ?_) (fun h57 => ?_)
              · try simp only [decide_eq_true_eq, decide_eq_false_iff_not, Bool.not_eq_true', Bool.not_eq_false', Bool.and_eq_true, Bool.or_eq_true, Bool.and_eq_false_iff, Bool.or_eq_false_iff, Option.isNone_some, Option.isSome_some, Option.isNone_none, Option.isSome_none, Int.not_lt, Int.not_le, beq_iff_eq, beq_eq_false_iff_ne, bne_iff_ne, ne_eq, Bool.not_not, Decidable.not_not] at h57
                refine J.condT rfl rfl ?_
                refine J.seq rfl ?_
                refine J.region rfl ?_
                refine JO.pur rfl rfl rfl (Pur.assign rfl) ?_
                refine JO.pur rfl rfl rfl (Pur.assign rfl) ?_
                refine JO.nil ?_
                refine J.ret rfl rfl ?_
                have hbc : busy wr fr to c = true := by unfold busy; simp_all
                have hany : F.opens.any (busy wr fr to) = true := List.any_eq_true.2 ⟨c, List.mem_of_getElem? hch, hbc⟩
                have hv : (beginF F fr to wr) = (F, 0, 190) := by unfold beginF; rw [if_neg (by omega), if_pos hany]
                refine ⟨_, _, ⟨rfl, rfl⟩, by rw [hv]; rfl, fun h s => ?_⟩
                rw [hv]
                have s2 := ch_put (c' := c) hrg hch s
                rw [set_same hch, set_same hrg] at s2
                have s4 : Sat h (mpIt intK mb i31 (entsC rs F.opens) (j :: S) :: blk p (.cells #[.bool true, .slice ab F.bytes.length cb, .int .i64 F.next, .map (some mb)] 62) :: sl byE ab cb F.bytes :: star (chL rs F.opens) :: L) := SubC.out h s2
                have s3 := s4.cons_imp (M := blk p (.cells #[.bool true, .slice ab F.bytes.length cb, .int .i64 F.next, .map (some mb)] 62) :: sl byE ab cb F.bytes :: star (chL rs F.opens) :: L) (fun _ h => mpIt_done h) (fun _ h => h)
                exact FA_mk (ab := ab) (cb := cb) (mb := mb) hr (SubC.out h s3)
              · try simp only [decide_eq_true_eq, decide_eq_false_iff_not, Bool.not_eq_true', Bool.not_eq_false', Bool.and_eq_true, Bool.or_eq_true, Bool.and_eq_false_iff, Bool.or_eq_false_iff, Option.isNone_some, Option.isSome_some, Option.isNone_none, Option.isSome_none, Int.not_lt, Int.not_le, beq_iff_eq, beq_eq_false_iff_ne, bne_iff_ne, ne_eq, Bool.not_not, Decidable.not_not] at h57
                refine J.condF rfl rfl ?_
                refine J.skip rfl ?_
                refine J.inBlock ?_
                have hbc : busy wr fr to c = false := by unfold busy; simp_all
                have hbz : ∀ j' ∈ j :: S, ∀ c', F.opens[j']? = some c' → busy wr fr to c' = false := fun j' hj' c' hc' => by
                  rcases List.mem_cons.1 hj' with rfl | hj'
                  · rw [hch] at hc'; cases hc'; exact hbc
                  · exact hS3 j' hj' c' hc'
                exact J.weaken (.cons rfl rfl (.cons rfl rfl (.cons rfl rfl (.cons rfl rfl (.cons rfl rfl .nil))))) (fun h s => by have s2 := ch_put (c' := c) hrg hch s; rw [set_same hch, set_same hrg] at s2; exact SubC.out h s2) (ih0 (j :: S) ⟨hnd, hlt2, hbz⟩ (by have h7 := nodup_le _ _ hnd hlt2; simp only [List.length_cons] at h7 ⊢; omega))
            · try simp only [decide_eq_true_eq, decide_eq_false_iff_not, Bool.not_eq_true', Bool.not_eq_false', Bool.and_eq_true, Bool.or_eq_true, Bool.and_eq_false_iff, Bool.or_eq_false_iff, Option.isNone_some, Option.isSome_some, Option.isNone_none, Option.isSome_none, Int.not_lt, Int.not_le, beq_iff_eq, beq_eq_false_iff_ne, bne_iff_ne, ne_eq, Bool.not_not, Decidable.not_not] at h43
              refine JQ.no rfl rfl rfl ?_
              refine JQ.no rfl rfl rfl ?_
              refine JQ.no rfl rfl rfl ?_
              refine JQ.no rfl rfl rfl ?_
              refine JQ.no rfl rfl rfl ?_
              refine JQ.no rfl rfl rfl ?_
              refine JQ.no rfl rfl rfl ?_
              refine JQ.no rfl rfl rfl ?_
              refine JQ.no rfl rfl rfl ?_
              refine JQ.no rfl rfl rfl ?_
              refine JQ.no rfl rfl rfl ?_
              refine JQ.no rfl rfl rfl ?_
              refine JQ.no rfl rfl rfl ?_
              refine JQ.pur rfl rfl rfl (Pur.pickF rfl rfl) ?_
              refine JQ.nil ?_
              refine J.condF rfl rfl ?_
              refine J.skip rfl ?_
              refine J.inBlock ?_
              have hbc : busy wr fr to c = false := by unfold busy; simp_all
              have hbz : ∀ j' ∈ j :: S, ∀ c', F.opens[j']? = some c' → busy wr fr to c' = false := fun j' hj' c' hc' => by
                rcases List.mem_cons.1 hj' with rfl | hj'
                · rw [hch] at hc'; cases hc'; exact hbc
                · exact hS3 j' hj' c' hc'
              exact J.weaken (.cons rfl rfl (.cons rfl rfl (.cons rfl rfl (.cons rfl rfl (.cons rfl rfl .nil))))) (fun h s => by have s2 := ch_put (c' := c) hrg hch s; rw [set_same hch, set_same hrg] at s2; exact SubC.out h s2) (ih0 (j :: S) ⟨hnd, hlt2, hbz⟩ (by have h7 := nodup_le _ _ hnd hlt2; simp only [List.length_cons] at h7 ⊢; omega))
        · skip
          have hno : F.opens.any (busy wr fr to) = false := by
            rw [List.any_eq_false]
            intro c hc
            obtain ⟨j, hj, hje⟩ := List.getElem_of_mem hc
            have := hS3 j (hall j (by rw [entsC_len hr]; exact hj)) c (by rw [← hje]; exact List.getElem?_eq_getElem hj)
            simp [this]
          refine JO.pur rfl rfl rfl (Pur.extract rfl rfl) ?_
          refine JO.nil ?_
          refine J.seq rfl ?_
          refine J.condF rfl rfl ?_
          refine J.exit rfl rfl ?_
          refine J.seq rfl ?_
          refine J.pullC (A := mpIt intK mb i31 (entsC rs F.opens) S) inferInstance ?_
          refine J.imp (fun h s => s.cons_imp (B := mp intK mb (entsC rs F.opens)) (fun _ h => mpIt_done h) (fun _ h => h)) ?_
          refine J.mask1 (n := 16) [15] rfl Try.mixed rfl (by kernel_rfl) ?_
          refine JM.take 0 (fun _ h => h.tail) rfl (by kernel_rfl) rfl rfl rfl (m' := 1) rfl (Pur.move rfl) ?_
          refine JM.take 1 (fun _ h => h.tail) rfl (by kernel_rfl) rfl rfl rfl (m' := 3) rfl (Pur.nilCheck rfl) ?_
          refine JM.take 2 (fun _ h => h.tail) rfl (by kernel_rfl) rfl rfl rfl (m' := 7) rfl (Pur.fieldAddr rfl) ?_
          refine JM.take 3 (fun _ h => h.tail) rfl (by kernel_rfl) rfl rfl rfl (m' := 15) rfl (Pur.load rfl (CellIn.blk rfl)) ?_
          refine JM.take 4 (fun _ h => h.tail) rfl (by kernel_rfl) rfl rfl rfl (m' := 31) rfl (Pur.move rfl) ?_
          refine JM.take 5 (fun _ h => h.tail) rfl (by kernel_rfl) rfl rfl rfl (m' := 63) rfl (Pur.nilCheck rfl) ?_
          refine JM.take 6 (fun _ h => h.tail) rfl (by kernel_rfl) rfl rfl rfl (m' := 127) rfl (Pur.fieldAddr rfl) ?_
          refine JM.take 7 (fun _ h => h.tail) rfl (by kernel_rfl) rfl rfl rfl (m' := 255) rfl (Pur.load rfl (CellIn.blk rfl)) ?_
          refine JM.setv (u' := .int .i64 F.next) 65 rfl rfl ?_
          refine JM.take 8 (fun _ h => h.tail) rfl (by kernel_rfl) rfl rfl rfl (m' := 511) rfl (Pur.move rfl) ?_
          refine JM.take 9 (fun _ h => h.tail) rfl (by kernel_rfl) rfl rfl rfl (m' := 1023) rfl (Pur.move rfl) ?_
          refine JM.take 10 (fun _ h => h.tail) rfl (by kernel_rfl) rfl rfl rfl (m' := 2047) rfl (Pur.move rfl) ?_
          refine JM.take 11 (fun _ h => h.tail) rfl (by kernel_rfl) rfl rfl rfl (m' := 4095) rfl (Pur.move rfl) ?_
          refine JM.take 12 (fun _ h => h.tail) rfl (by kernel_rfl) rfl rfl rfl (m' := 8191) rfl (Pur.move rfl) ?_
          refine JM.take 13 (fun _ h => h.tail) rfl (by kernel_rfl) rfl rfl rfl (m' := 16383) rfl (Pur.build (cs := [_, _, _, _, _, _, _]) rfl rfl) ?_
          refine JM.one (i := 14) (by kernel_rfl) ?_
          refine JMi.eff rfl rfl rfl rfl (m' := 32767) rfl (Eff.box (cs := [_, _, _, _, _, _, _]) rfl rfl) ?_
          rintro _ _ ⟨b72, rfl, rfl⟩
          refine ⟨.inr (fun _ h => h.tail.tail), ?_⟩
          refine JM.one (i := 15) (by kernel_rfl) ?_
          refine JMi.effN rfl rfl rfl (m' := 65535) rfl (Eff.mapUpdate (K := intK) (k := F.next) rfl rfl rfl) ?_
          rintro _ _ ⟨rfl, rfl⟩
          refine ⟨.inl (by simp), ?_⟩
          rw [aset_new g hr]
          refine JM.done rfl ?_
          refine J.seq rfl ?_
          refine J.region rfl ?_
          refine JO.pur rfl rfl rfl (Pur.move rfl) ?_
          refine JO.pur rfl rfl rfl (Pur.nilCheck rfl) ?_
          refine JO.pur rfl rfl rfl (Pur.fieldAddr rfl) ?_
          refine JO.pur rfl rfl rfl (Pur.load rfl (CellIn.blk rfl)) ?_
          refine JO.pur rfl rfl rfl (Pur.add rfl rfl (wr64 (by omega))) ?_
          refine JO.pur rfl rfl rfl (Pur.nilCheck rfl) ?_
          refine JO.pur rfl rfl rfl (Pur.fieldAddr rfl) ?_
          refine JO.effN rfl rfl (Eff.storeB rfl rfl rfl (.tail (.tail .head))) ?_
          rintro _ _ ⟨rfl, rfl⟩
          refine JO.nil ?_
          refine J.seq rfl ?_
          refine J.region rfl ?_
          refine JO.pur rfl rfl rfl (Pur.move rfl) ?_
          refine JO.pur rfl rfl rfl (Pur.nilCheck rfl) ?_
          refine JO.pur rfl rfl rfl (Pur.fieldAddr rfl) ?_
          refine JO.pur rfl rfl rfl (Pur.load rfl (CellIn.blk rfl)) ?_
          refine JO.pur rfl rfl rfl (Pur.sub rfl rfl (wr64 (by omega))) ?_
          refine JO.setv (u' := .int .i64 F.next) 84 rfl (congrArg (Value.int .i64) (by omega)) ?_
          refine JO.pur rfl rfl rfl (Pur.assign rfl) ?_
          refine JO.pur rfl rfl rfl (Pur.assign rfl) ?_
          refine JO.nil ?_
          refine J.ret rfl rfl ?_
          have hn := g.nk
          have hv : (beginF F fr to wr) = (⟨F.bytes, F.next + 1, F.opens ++ [newC F fr to wr]⟩, F.next, 0) := by unfold beginF; rw [if_neg (by omega), if_neg (by rw [hno]; simp)]
          refine ⟨_, _, ⟨rfl, rfl⟩, by rw [hv]; rfl, fun h s => ?_⟩
          rw [hv]
          have s1 : Sat h (blk b72 (.cells #[.int .i64 fr, .int .i64 to, .int .i64 fr, .bool wr, .slice none 0 0, .int .i64 fr, .slice none 0 0] 77) :: star (chL rs F.opens) :: blk p (.cells #[.bool true, .slice ab F.bytes.length cb, .int .i64 (F.next + 1), .map (some mb)] 62) :: sl byE ab cb F.bytes :: mp intK mb (entsC rs F.opens ++ [(F.next, .pointer (some ⟨b72, 0, none⟩))]) :: L) := SubC.out h s
          have s2 := sl_nil_new (E := intE) (sl_nil_new (E := byE) s1)
          have s3 : Sat h (blk b72 (.cells #[.int .i64 fr, .int .i64 to, .int .i64 fr, .bool wr, .slice none 0 0, .int .i64 fr, .slice none 0 0] 77) :: sl byE none 0 [] :: sl intE none 0 [] :: star (chL rs F.opens) :: blk p (.cells #[.bool true, .slice ab F.bytes.length cb, .int .i64 (F.next + 1), .map (some mb)] 62) :: sl byE ab cb F.bytes :: mp intK mb (entsC rs F.opens ++ [(F.next, .pointer (some ⟨b72, 0, none⟩))]) :: L) := SubC.out h s2
          have s4 := star_snoc (B := chA ⟨b72, none, 0, none, 0⟩ (newC F fr to wr)) ((Sat.star (M := [blk b72 (.cells (chC ⟨b72, none, 0, none, 0⟩ (newC F fr to wr)).toArray 77), sl byE none 0 [], sl intE none 0 []])).2 s3)
          rw [← chL_snoc hr] at s4
          refine FA_mk (F := ⟨F.bytes, F.next + 1, F.opens ++ [newC F fr to wr]⟩) (ab := ab) (cb := cb) (mb := mb) (rs := rs ++ [⟨b72, none, 0, none, 0⟩]) (by simp [hr]) ?_
          dsimp only
          rw [entsC_snoc hr, show ent ⟨b72, none, 0, none, 0⟩ (newC F fr to wr) = (F.next, .pointer (some ⟨b72, 0, none⟩)) from rfl]
          exact SubC.out h s4

end Go.Proofs.Ytgbckamaenapeaa

/- The text HFirst. -/
set_option linter.unusedVariables false
set_option linter.unusedSimpArgs false
set_option maxRecDepth 10000
namespace Go.Proofs.Ytgbckamaenapeaa
open Go Go.KK Hf

theorem Reader_ok {L : List Asn} {p : Nat} {F : Fl} {fr to : Int} {k : Nat} (g : Hf.Good F k) (hk : k ≤ 100000) :
    CallS Try.prog 22 [.pointer (some ⟨p, 0, none⟩), .int .i64 fr, .int .i64 to].toArray (FA p F :: L) (fun v M => v = .tuple #[.int .i64 (beginF F fr to false).2.1, .int .i64 (beginF F fr to false).2.2] ∧ M = FA p (beginF F fr to false).1 :: L) := by
  refine CallS.enter Try.func22 rfl rfl rfl rfl rfl ?_
  refine J.seq rfl ?_
  refine J.region rfl ?_
  refine JO.pur rfl rfl rfl (Pur.assign rfl) ?_
  refine JO.pur rfl rfl rfl (Pur.assign rfl) ?_
  refine JO.nil ?_
  refine J.seq rfl ?_
  refine J.region rfl ?_
  refine JO.pur rfl rfl rfl (Pur.move rfl) ?_
  refine JO.pur rfl rfl rfl (Pur.move rfl) ?_
  refine JO.pur rfl rfl rfl (Pur.move rfl) ?_
  refine JO.eff rfl rfl rfl (Eff.call rfl (channel_ok g hk)) ?_
  rintro _ _ ⟨rfl, rfl⟩
  refine JO.pur rfl rfl rfl (Pur.extract rfl rfl) ?_
  refine JO.pur rfl rfl rfl (Pur.extract rfl rfl) ?_
  refine JO.pur rfl rfl rfl (Pur.assign rfl) ?_
  refine JO.pur rfl rfl rfl (Pur.assign rfl) ?_
  refine JO.nil ?_
  refine J.ret rfl rfl ?_
  exact ⟨rfl, rfl⟩

theorem Writer_ok {L : List Asn} {p : Nat} {F : Fl} {fr to : Int} {k : Nat} (g : Hf.Good F k) (hk : k ≤ 100000) :
    CallS Try.prog 18 [.pointer (some ⟨p, 0, none⟩), .int .i64 fr, .int .i64 to].toArray (FA p F :: L) (fun v M => v = .tuple #[.int .i64 (beginF F fr to true).2.1, .int .i64 (beginF F fr to true).2.2] ∧ M = FA p (beginF F fr to true).1 :: L) := by
  refine CallS.enter Try.func18 rfl rfl rfl rfl rfl ?_
  refine J.seq rfl ?_
  refine J.region rfl ?_
  refine JO.pur rfl rfl rfl (Pur.assign rfl) ?_
  refine JO.pur rfl rfl rfl (Pur.assign rfl) ?_
  refine JO.nil ?_
  refine J.seq rfl ?_
  refine J.region rfl ?_
  refine JO.pur rfl rfl rfl (Pur.move rfl) ?_
  refine JO.pur rfl rfl rfl (Pur.move rfl) ?_
  refine JO.pur rfl rfl rfl (Pur.move rfl) ?_
  refine JO.eff rfl rfl rfl (Eff.call rfl (channel_ok g hk)) ?_
  rintro _ _ ⟨rfl, rfl⟩
  refine JO.pur rfl rfl rfl (Pur.extract rfl rfl) ?_
  refine JO.pur rfl rfl rfl (Pur.extract rfl rfl) ?_
  refine JO.pur rfl rfl rfl (Pur.assign rfl) ?_
  refine JO.pur rfl rfl rfl (Pur.assign rfl) ?_
  refine JO.nil ?_
  refine J.ret rfl rfl ?_
  exact ⟨rfl, rfl⟩

def F1 : Fl := ⟨[], 2, [⟨1, 2, 5, 2, true, 2, [], []⟩]⟩
def F2 : Fl := ⟨[], 2, [⟨1, 2, 5, 4, true, 2, [97, 98], []⟩]⟩
def F3 : Fl := ⟨[0, 0, 97, 98], 2, []⟩
theorem f1 : beginF (newF []) 2 5 true = (F1, 1, 0) := by kernel_rfl
theorem f2 : writeF F1 1 [97, 98] = (F2, 0) := by kernel_rfl
theorem f3 : closeF F2 1 = (F3, 0) := by kernel_rfl
theorem g1 : Hf.Good F1 1 := by have h := good_begin (good_new (bs := []) (by decide)) 2 5 true; rw [f1] at h; exact h
theorem g2 : Hf.Good F2 1 := by have h := good_write g1 1 [97, 98]; rw [f2] at h; exact h
theorem first_ok {L : List Asn} :
    CallS Try.prog 11 [].toArray L (fun v M => v = .bool true ∧ M = L) := by
  refine CallS.ent ?_
  refine CallS.enter Try.func11 rfl rfl rfl rfl rfl ?_
  refine J.seq rfl ?_
  refine J.region rfl ?_
  refine JO.pur rfl rfl rfl (Pur.assign rfl) ?_
  refine JO.nil ?_
  refine J.seq rfl ?_
  refine J.region rfl ?_
  refine JO.eff rfl rfl rfl (Eff.call rfl (@New_ok _ none 0 0 [] SlIn.nil rfl (by decide) (fun _ => ⟨rfl, rfl⟩))) ?_
  rintro _ _ ⟨p, rfl, rfl⟩
  refine JO.pur rfl rfl rfl (Pur.move rfl) ?_
  refine JO.pur rfl rfl rfl (Pur.extract rfl rfl) ?_
  refine JO.pur rfl rfl rfl (Pur.extract rfl rfl) ?_
  refine JO.pur rfl rfl rfl (Pur.assign rfl) ?_
  refine JO.pur rfl rfl rfl (Pur.assign rfl) ?_
  refine JO.nil ?_
  refine J.seq rfl ?_
  refine J.seq rfl ?_
  refine J.region rfl ?_
  refine JO.pur rfl rfl rfl (Pur.move rfl) ?_
  refine JO.pur rfl rfl rfl (Pur.neqI rfl rfl) ?_
  refine JO.setv (u' := .bool false) 9 rfl (congrArg Value.bool (rfl)) ?_
  refine JO.pur rfl rfl rfl (Pur.move rfl) ?_
  refine JO.pur rfl rfl rfl (Pur.move rfl) ?_
  refine JO.pur rfl rfl rfl (Pur.eqlPtrNil rfl) ?_
  refine JO.setv (u' := .bool false) 12 rfl (congrArg Value.bool (rfl)) ?_
  refine JO.pur rfl rfl rfl (Pur.pickF rfl rfl) ?_
  refine JO.nil ?_
  refine J.condF rfl rfl ?_
  refine J.skip rfl ?_
  refine J.seq rfl ?_
  refine J.region rfl ?_
  refine JO.pur rfl rfl rfl (Pur.move rfl) ?_
  refine JO.eff rfl rfl rfl (Eff.call rfl (Writer_ok (F := newF []) (fr := 2) (to := 5) (good_new (by decide)) (by decide))) ?_
  rintro _ _ ⟨rfl, rfl⟩
  rw [f1]
  refine JO.pur rfl rfl rfl (Pur.move rfl) ?_
  refine JO.pur rfl rfl rfl (Pur.extract rfl rfl) ?_
  refine JO.pur rfl rfl rfl (Pur.extract rfl rfl) ?_
  refine JO.pur rfl rfl rfl (Pur.assign rfl) ?_
  refine JO.pur rfl rfl rfl (Pur.assign rfl) ?_
  refine JO.nil ?_
  refine J.seq rfl ?_
  refine J.seq rfl ?_
  refine J.region rfl ?_
  refine JO.pur rfl rfl rfl (Pur.move rfl) ?_
  refine JO.pur rfl rfl rfl (Pur.neqI rfl rfl) ?_
  refine JO.setv (u' := .bool false) 20 rfl (congrArg Value.bool (rfl)) ?_
  refine JO.pur rfl rfl rfl (Pur.move rfl) ?_
  refine JO.pur rfl rfl rfl (Pur.move rfl) ?_
  refine JO.pur rfl rfl rfl (Pur.move rfl) ?_
  refine JO.eff rfl rfl rfl (Eff.buildSlice byE [97, 98] rfl rfl rfl rfl rfl rfl rfl) ?_
  rintro _ _ ⟨b24, rfl, -, rfl⟩
  refine JO.eff rfl rfl rfl (Eff.convBB (E := byE) (e := 5) (by kernel_rfl) (by kernel_rfl) rfl) ?_
  rintro _ _ ⟨rfl, rfl⟩
  refine JO.imp (M := FA p F1 :: rd byE (some ⟨b24, 0, none⟩) [97, 98] :: L) (fun h s => SubC.out h s) ?_
  refine JO.eff rfl rfl rfl (Eff.call rfl (Write_ok (F := F1) (n := 1) (ys := [97, 98]) rfl (by decide) (fun e => by cases e) g1 (by decide))) ?_
  rintro _ _ ⟨rfl, rfl⟩
  rw [f2]
  refine JO.pur rfl rfl rfl (Pur.neqI rfl rfl) ?_
  refine JO.setv (u' := .bool false) 27 rfl (congrArg Value.bool (rfl)) ?_
  refine JO.pur rfl rfl rfl (Pur.pickF rfl rfl) ?_
  refine JO.pur rfl rfl rfl (Pur.move rfl) ?_
  refine JO.pur rfl rfl rfl (Pur.move rfl) ?_
  refine JO.pur rfl rfl rfl (Pur.move rfl) ?_
  refine JO.eff rfl rfl rfl (Eff.call rfl (Close_ok (F := F2) (n := 1) g2 (by decide))) ?_
  rintro _ _ ⟨rfl, rfl⟩
  rw [f3]
  refine JO.pur rfl rfl rfl (Pur.neqI rfl rfl) ?_
  refine JO.setv (u' := .bool false) 33 rfl (congrArg Value.bool (rfl)) ?_
  refine JO.pur rfl rfl rfl (Pur.pickF rfl rfl) ?_
  refine JO.nil ?_
  refine J.condF rfl rfl ?_
  refine J.skip rfl ?_
  refine J.seq rfl ?_
  refine J.region rfl ?_
  refine JO.pur rfl rfl rfl (Pur.move rfl) ?_
  refine JO.eff rfl rfl rfl (Eff.call rfl (Bytes_ok (F := F3) (by decide))) ?_
  rintro _ _ ⟨a36, c36, rfl, rfl⟩
  refine JO.eff rfl rfl rfl (Eff.buildSlice byE [0, 0, 97, 98] rfl rfl rfl rfl rfl rfl rfl) ?_
  rintro _ _ ⟨b37, rfl, -, rfl⟩
  refine JO.effR rfl rfl rfl (Eff.call rfl (same_ok (xs := F3.bytes) (ys := [0, 0, 97, 98]) rfl rfl)) ?_
  refine JO.setv (u' := .bool true) 38 rfl (congrArg Value.bool (rfl)) ?_
  refine JO.pur rfl rfl rfl (Pur.assign rfl) ?_
  refine JO.nil ?_
  refine J.ret rfl rfl ?_
  exact ⟨_, _, ⟨rfl, rfl⟩, rfl, SubC.out⟩

end Go.Proofs.Ytgbckamaenapeaa

/- The text HCuts. -/
/-!
  The regions of a file that is cut, and the file that parts make together.
-/
set_option linter.unusedVariables false
set_option linter.unusedSimpArgs false
namespace Go.Proofs.Ytgbckamaenapeaa
open Go Go.KK Hf
def pairE : Enc (Int × Int) := ⟨29, 2, fun p => [.int .i64 p.1, .int .i64 p.2], fun _ => rfl, fun s v h => by
  simp only [List.mem_cons, List.not_mem_nil, or_false] at h; rcases h with rfl | rfl <;> rfl⟩
def hbE : Enc Hdr := hdrE 24
def cutA (size n : Int) (k : Nat) : Int := Int.tdiv ((k : Int) * size) n
def cutP (size n : Int) (k : Nat) : Int × Int := (cutA size n k, cutA size n (k + 1))
def badC (size n : Int) : Prop := size < 0 ∨ 400 < size ∨ n < 1 ∨ 16 < n
instance (size n : Int) : Decidable (badC size n) := by unfold badC; infer_instance
def cutsV (size n : Int) : List (Int × Int) × Int := if badC size n then ([], 2) else ((List.range n.toNat).map (cutP size n), 0)
section
variable {size n : Int} (h : ¬ badC size n)
include h
theorem cut_in : 0 ≤ size ∧ size ≤ 400 ∧ 1 ≤ n ∧ n ≤ 16 := by unfold badC at h; omega
theorem cut_mul {k : Nat} (hk : k ≤ 17) : 0 ≤ (k : Int) * size ∧ (k : Int) * size ≤ 6800 := by
  have := cut_in h
  refine ⟨Int.mul_nonneg (by omega) this.1, ?_⟩
  have h1 : (k : Int) * size ≤ 17 * size := Int.mul_le_mul_of_nonneg_right (by omega) this.1
  omega
theorem cut_ediv {k : Nat} (hk : k ≤ 17) : cutA size n k = (k : Int) * size / n := by
  unfold cutA; exact Int.tdiv_eq_ediv_of_nonneg (cut_mul h hk).1
theorem cut_nonneg {k : Nat} (hk : k ≤ 17) : 0 ≤ cutA size n k ∧ cutA size n k ≤ 6800 := by
  have h1 := cut_mul h hk
  have h2 := cut_in h
  rw [cut_ediv h hk]
  exact ⟨Int.ediv_nonneg h1.1 (by omega), Int.le_trans (Int.ediv_le_self _ h1.1) h1.2⟩
theorem cut_mono {k : Nat} (hk : k ≤ 16) : cutA size n k ≤ cutA size n (k + 1) := by
  have h2 := cut_in h
  rw [cut_ediv h (by omega), cut_ediv h (by omega)]
  refine Int.ediv_le_ediv (by omega) ?_
  exact Int.mul_le_mul_of_nonneg_right (by omega) h2.1
theorem cut_top {k : Nat} (hk : (k : Int) ≤ n) : cutA size n k ≤ size := by
  have h2 := cut_in h
  rw [cut_ediv h (by omega)]
  have h1 : (k : Int) * size ≤ n * size := Int.mul_le_mul_of_nonneg_right hk h2.1
  have h3 := Int.ediv_le_ediv (c := n) (by omega) h1
  rwa [Int.mul_ediv_cancel_left _ (by omega)] at h3
theorem cut_get {k : Nat} (hk : (k : Int) < n) : (cutsV size n).1[k]? = some (cutP size n k) := by
  unfold cutsV; rw [if_neg h]; simp only [List.getElem?_map]; rw [List.getElem?_range (by omega)]; rfl
theorem cut_len : (cutsV size n).1.length = n.toNat := by unfold cutsV; rw [if_neg h]; simp
theorem cut_err : (cutsV size n).2 = 0 := by unfold cutsV; rw [if_neg h]
end
theorem cut_bad {size n : Int} (h : badC size n) : cutsV size n = ([], 2) := by unfold cutsV; rw [if_pos h]
theorem cut_of {size n : Int} (h : (cutsV size n).2 = 0) : ¬ badC size n := by
  intro hb; rw [cut_bad hb] at h; cases h
/-- The file of the first k parts. -/
def togB (size : Int) (parts : List (List UInt8)) : Nat → List UInt8
  | 0 => List.replicate size.toNat 0
  | k + 1 => spl (togB size parts k) (cutA size parts.length k).toNat (parts.getD k [])
def fits (size : Int) (parts : List (List UInt8)) (k : Nat) : Prop := ((parts.getD k []).length : Int) ≤ cutA size parts.length (k + 1) - cutA size parts.length k
instance (size : Int) (parts : List (List UInt8)) (k : Nat) : Decidable (fits size parts k) := by unfold fits; infer_instance
def allFit (size : Int) (parts : List (List UInt8)) : Bool := (List.range parts.length).all (fun k => decide (fits size parts k))
theorem allFit_iff {size : Int} {parts : List (List UInt8)} : allFit size parts = true ↔ ∀ k, k < parts.length → fits size parts k := by
  unfold allFit; rw [List.all_eq_true]; simp
def togV (size : Int) (parts : List (List UInt8)) : List UInt8 × Int :=
  if badC size parts.length then ([], 2) else if allFit size parts = true then (togB size parts parts.length, 0) else ([], 230)
theorem togV_bad {size : Int} {parts : List (List UInt8)} (h : badC size parts.length) : togV size parts = ([], 2) := by unfold togV; rw [if_pos h]
theorem togV_no {size : Int} {parts : List (List UInt8)} (h : ¬ badC size parts.length) {k : Nat} (hk : k < parts.length) (hf : ¬ fits size parts k) : togV size parts = ([], 230) := by
  unfold togV; rw [if_neg h, if_neg (fun ha => hf (allFit_iff.1 ha k hk))]
theorem togV_yes {size : Int} {parts : List (List UInt8)} (h : ¬ badC size parts.length) (hf : ∀ k, k < parts.length → fits size parts k) : togV size parts = (togB size parts parts.length, 0) := by
  unfold togV; rw [if_neg h, if_pos (allFit_iff.2 hf)]
theorem fit_end {size : Int} {parts : List (List UInt8)} (h : ¬ badC size parts.length) {k : Nat} (hk : k < parts.length) (hf : fits size parts k) : (cutA size parts.length k).toNat + (parts.getD k []).length ≤ size.toNat := by
  have h2 := cut_in h
  have h1 := cut_nonneg h (k := k) (by omega)
  have h3 := cut_top h (k := k + 1) (by omega)
  unfold fits at hf; omega
theorem togB_len {size : Int} {parts : List (List UInt8)} (h : ¬ badC size parts.length) : ∀ {k : Nat}, k ≤ parts.length → (∀ j, j < k → fits size parts j) → (togB size parts k).length = size.toNat
  | 0, _, _ => by simp [togB]
  | k + 1, hk, hf => by
    have ih := togB_len h (k := k) (by omega) (fun j hj => hf j (by omega))
    rw [togB, spl_len (by rw [ih]; exact fit_end h (by omega) (hf k (by omega))), ih]
theorem togV_len (size : Int) (parts : List (List UInt8)) : (togV size parts).1.length ≤ 400 := by
  unfold togV
  split
  · simp
  · rename_i h
    split
    · rename_i hf
      have := cut_in h
      show (togB size parts parts.length).length ≤ 400
      rw [togB_len h (Nat.le_refl _) (allFit_iff.1 hf)]; omega
    · simp
theorem getD_part {parts : List (List UInt8)} {k : Nat} (h : k < parts.length) : parts[k]? = some (parts.getD k []) := by simp [List.getD_eq_getElem?_getD, h]
end Go.Proofs.Ytgbckamaenapeaa

/- The text HP4. -/
/-! Writers beside each other: the file through one run of ChannelTogether. No program in sight. -/
set_option linter.unusedVariables false
set_option linter.unusedSimpArgs false
set_option linter.unusedSectionVars false
namespace Go.Proofs.Ytgbckamaenapeaa
open Go Go.KK Hf
theorem spl_get {α : Type} {xs ys : List α} {j : Nat} (h : j + ys.length ≤ xs.length) (k : Nat) : (spl xs j ys)[k]? = if k < j then xs[k]? else if k < j + ys.length then ys[k - j]? else xs[k]? := by
  have h1 : (xs.take j).length = j := by rw [List.length_take]; omega
  unfold spl
  rw [List.append_assoc, List.getElem?_append, h1]
  by_cases hk : k < j
  · rw [if_pos hk, if_pos hk, List.getElem?_take, if_pos hk]
  · rw [if_neg hk, if_neg hk, List.getElem?_append]
    by_cases hk2 : k < j + ys.length
    · rw [if_pos (by omega), if_pos hk2]
    · rw [if_neg (by omega), if_neg hk2, List.getElem?_drop]; congr 1; omega
theorem spl_comm {α : Type} {xs a b : List α} {i j : Nat} (h1 : i + a.length ≤ j) (h2 : j + b.length ≤ xs.length) : spl (spl xs j b) i a = spl (spl xs i a) j b := by
  have l1 : (spl xs j b).length = xs.length := spl_len h2
  have l2 : (spl xs i a).length = xs.length := spl_len (by omega)
  apply List.ext_getElem?
  intro k
  rw [spl_get (by omega), spl_get h2, spl_get (by omega), spl_get (by omega)]
  by_cases c1 : k < i
  · rw [if_pos c1, if_pos (by omega), if_pos (by omega), if_pos c1]
  · rw [if_neg c1]
    by_cases c2 : k < i + a.length
    · rw [if_pos c2, if_pos (by omega), if_neg c1, if_pos c2]
    · rw [if_neg c2]
      by_cases c3 : k < j
      · rw [if_pos c3, if_pos c3, if_neg c1, if_neg c2]
      · rw [if_neg c3, if_neg c3, if_neg c1, if_neg c2]
def asc (c : Nat → Nat) (p : Nat → List UInt8) (B : List UInt8) : Nat → List UInt8
  | 0 => B
  | k + 1 => spl (asc c p B k) (c k) (p k)
/-- From the last part down, t of n parts. -/
def dsc (c : Nat → Nat) (p : Nat → List UInt8) (n : Nat) (B : List UInt8) : Nat → List UInt8
  | 0 => B
  | t + 1 => spl (dsc c p n B t) (c (n - 1 - t)) (p (n - 1 - t))
section
variable {c : Nat → Nat} {p : Nat → List UInt8} {n S : Nat} (hc : ∀ i, i < n → c i + (p i).length ≤ c (i + 1)) (hS : ∀ i, i ≤ n → c i ≤ S)
include hc hS
theorem c_mono {i : Nat} : ∀ {j : Nat}, i ≤ j → j ≤ n → c i ≤ c j
  | 0, h, _ => by rw [show i = 0 by omega]; exact Nat.le_refl _
  | j + 1, h, hj => by
    by_cases e : i = j + 1
    · rw [e]; exact Nat.le_refl _
    · have := c_mono (i := i) (j := j) (by omega) (by omega); have := hc j (by omega); omega
theorem asc_len {B : List UInt8} (hB : B.length = S) : ∀ {k : Nat}, k ≤ n → (asc c p B k).length = S
  | 0, _ => hB
  | k + 1, hk => by
    have ih := asc_len hB (k := k) (by omega)
    have h1 := hc k (by omega); have h2 := hS (k + 1) hk
    rw [asc, spl_len (by rw [ih]; omega), ih]
theorem dsc_len {B : List UInt8} (hB : B.length = S) : ∀ {t : Nat}, t ≤ n → (dsc c p n B t).length = S
  | 0, _ => hB
  | t + 1, ht => by
    have ih := dsc_len hB (t := t) (by omega)
    have h1 := hc (n - 1 - t) (by omega); have h2 := hS (n - 1 - t + 1) (by omega)
    rw [dsc, spl_len (by rw [ih]; omega), ih]
theorem asc_comm {B b : List UInt8} {j : Nat} (hB : B.length = S) (hj : j < n) (hb : c j + b.length ≤ S) : ∀ {k : Nat}, k ≤ j → asc c p (spl B (c j) b) k = spl (asc c p B k) (c j) b
  | 0, _ => rfl
  | k + 1, hk => by
    have ih := asc_comm hB hj hb (k := k) (by omega)
    have h1 := hc k (by omega)
    have h2 := c_mono hc hS (i := k + 1) (j := j) hk (by omega)
    have h3 := asc_len hc hS hB (k := k) (by omega)
    rw [asc, ih, asc, spl_comm (by omega) (by omega)]
theorem asc_dsc {B : List UInt8} (hB : B.length = S) : ∀ {t : Nat}, t ≤ n → asc c p (dsc c p n B t) (n - t) = asc c p B n
  | 0, _ => rfl
  | t + 1, ht => by
    have ih := asc_dsc hB (t := t) (by omega)
    have h1 := hc (n - 1 - t) (by omega); have h2 := hS (n - 1 - t + 1) (by omega)
    rw [dsc, asc_comm hc hS (dsc_len hc hS hB (by omega)) (by omega) (by omega) (by omega), show n - (t + 1) = n - 1 - t by omega]
    rw [show n - t = n - 1 - t + 1 by omega, asc] at ih
    exact ih
theorem dsc_all {B : List UInt8} (hB : B.length = S) : dsc c p n B n = asc c p B n := by
  have h := asc_dsc hc hS hB (t := n) (Nat.le_refl _)
  rw [Nat.sub_self] at h; exact h
end
section
variable (size : Int) (parts : List (List UInt8))
def cN (k : Nat) : Nat := (cutA size parts.length k).toNat
def pN (k : Nat) : List UInt8 := parts.getD k []
def Z0 : List UInt8 := List.replicate size.toNat 0
def DB (j : Nat) : List UInt8 := dsc (cN size parts) (pN parts) parts.length (Z0 size) (parts.length - j)
def Wr (i : Nat) (d : Bool) : Ch := ⟨(i : Int) + 1, cutA size parts.length i, cutA size parts.length (i + 1), cutA size parts.length i + (if d = true then ((parts.getD i []).length : Int) else 0), true, cutA size parts.length i, if d = true then parts.getD i [] else [], []⟩
def TF (B : List UInt8) (nx : Int) (m : Nat) (d : Nat → Bool) : Fl := ⟨B, nx, (List.range m).map (fun i => Wr size parts i (d i))⟩
def setd (d : Nat → Bool) (i : Nat) : Nat → Bool := fun j => if j = i then true else d j
def numsT (m : Nat) : List Int := (List.range m).map (fun i => ((i + 1 : Nat) : Int))
end
theorem asc_togB {size : Int} {parts : List (List UInt8)} : ∀ k, asc (cN size parts) (pN parts) (Z0 size) k = togB size parts k
  | 0 => rfl
  | k + 1 => by rw [asc, togB, asc_togB k]; rfl
theorem TF_len {size : Int} {parts : List (List UInt8)} {B : List UInt8} {nx : Int} {m : Nat} {d : Nat → Bool} : (TF size parts B nx m d).opens.length = m := by simp [TF]
theorem TF_get {size : Int} {parts : List (List UInt8)} {B : List UInt8} {nx : Int} {m : Nat} {d : Nat → Bool} {i : Nat} (h : i < m) : (TF size parts B nx m d).opens[i]? = some (Wr size parts i (d i)) := by
  simp [TF, h]
theorem TF_ch {size : Int} {parts : List (List UInt8)} {B : List UInt8} {nx : Int} {m : Nat} {d : Nat → Bool} {i : Nat} (h : i < m) : ch (TF size parts B nx m d) i = Wr size parts i (d i) := by
  unfold ch; rw [List.getD_eq_getElem?_getD, TF_get h]; rfl
theorem TF_ix {size : Int} {parts : List (List UInt8)} {B : List UInt8} {nx : Int} {m : Nat} {d : Nat → Bool} {i : Nat} (h : i < m) : ix (TF size parts B nx m d) ((i : Int) + 1) = some i := by
  unfold ix
  rw [List.findIdx?_eq_some_iff_getElem]
  refine ⟨by rw [TF_len]; exact h, ?_, fun j hj => ?_⟩
  · simp [TF, Wr]
  · simp [TF, Wr]; omega
section
variable {size : Int} {parts : List (List UInt8)} (hok : ¬ badC size parts.length)
include hok
theorem cA_mono {i : Nat} : ∀ {j : Nat}, i ≤ j → j ≤ parts.length → cutA size parts.length i ≤ cutA size parts.length j
  | 0, h, _ => by rw [show i = 0 by omega]; exact Int.le_refl _
  | j + 1, h, hj => by
    by_cases e : i = j + 1
    · rw [e]; exact Int.le_refl _
    · have h3 := cut_in hok
      have h1 := cA_mono (i := i) (j := j) (by omega) (by omega); have h2 := cut_mono hok (k := j) (by omega); omega
theorem tf_begin {B : List UInt8} {nx : Int} {m : Nat} (hm : m < parts.length) (hnx : nx = (m : Int) + 1) : beginF (TF size parts B nx m (fun _ => false)) (cutA size parts.length m) (cutA size parts.length (m + 1)) true = (TF size parts B (nx + 1) (m + 1) (fun _ => false), nx, 0) := by
  have h3 := cut_in hok
  have h1 := cut_nonneg hok (k := m) (by omega)
  have h2 := cut_mono hok (k := m) (by omega)
  have h4 := cut_top hok (k := m + 1) (by omega)
  have hb : (TF size parts B nx m (fun _ => false)).opens.any (busy true (cutA size parts.length m) (cutA size parts.length (m + 1))) = false := by
    rw [List.any_eq_false]
    intro c hc
    simp only [TF, List.mem_map, List.mem_range] at hc
    obtain ⟨j, hj, rfl⟩ := hc
    have h5 := cA_mono hok (i := j + 1) (j := m) hj (by omega)
    simp only [busy, Wr, Bool.or_true, Bool.true_and]
    intro hh
    have h6 := of_decide_eq_true hh
    omega
  unfold beginF
  rw [if_neg (by omega), if_neg (by rw [hb]; simp)]
  subst hnx
  simp only [TF, List.range_succ, List.map_append, List.map_cons, List.map_nil, newC, Wr, Bool.false_eq_true, if_false, Int.add_zero]
theorem tf_write {B : List UInt8} {nx : Int} {m : Nat} {d : Nat → Bool} {i : Nat} (hi : i < m) (hd : d i = false) (hf : fits size parts i) : writeF (TF size parts B nx m d) ((i : Int) + 1) (parts.getD i []) = (TF size parts B nx m (setd d i), 0) := by
  unfold writeF
  rw [TF_ix hi]; dsimp only
  rw [TF_ch hi, hd]
  unfold fits at hf
  rw [if_neg (by rintro (h | h); cases h; simp only [Wr, Bool.false_eq_true, if_false] at h; omega)]
  simp only [upd, TF, Prod.mk.injEq, Fl.mk.injEq, and_true, true_and]
  apply List.ext_getElem?
  intro j
  rw [List.getElem?_set, List.getElem?_map, List.getElem?_map]
  by_cases hj : j < m
  · rw [List.getElem?_range hj]
    by_cases e : i = j
    · subst e
      rw [if_pos rfl, if_pos (by simp [hi])]
      simp [setd, Wr]
    · rw [if_neg e]
      simp [setd, Ne.symm e]
  · rw [List.getElem?_eq_none (by simp; omega), if_neg (by omega)]; rfl
theorem tf_close {B : List UInt8} {nx : Int} {m : Nat} {d : Nat → Bool} : closeF (TF size parts B nx (m + 1) d) ((m : Int) + 1) = (TF size parts (putB B (Wr size parts m (d m))) nx m d, 0) := by
  unfold closeF
  rw [TF_ix (by omega)]; dsimp only
  rw [TF_ch (by omega)]
  simp only [TF, Prod.mk.injEq, Fl.mk.injEq, and_true, true_and]
  rw [List.range_succ, List.map_append, List.eraseIdx_append_of_length_le (by simp)]
  simp
theorem tf_all {B : List UInt8} {nx : Int} {m : Nat} {d e : Nat → Bool} (h : ∀ i, i < m → d i = e i) : TF size parts B nx m d = TF size parts B nx m e := by
  unfold TF
  congr 1
  exact List.map_congr_left fun i hi => by rw [h i (List.mem_range.1 hi)]
theorem fit_c (hft : ∀ k, k < parts.length → fits size parts k) : ∀ i, i < parts.length → cN size parts i + (pN parts i).length ≤ cN size parts (i + 1) := fun i hi => by
  have h3 := cut_in hok
  have h1 := cut_nonneg hok (k := i) (by omega)
  have h2 := hft i hi
  unfold fits at h2
  unfold cN pN; omega
theorem fit_s : ∀ i, i ≤ parts.length → cN size parts i ≤ size.toNat := fun i hi => by
  have h4 := cut_top hok (k := i) (by omega)
  unfold cN; omega
theorem DB_top : DB size parts parts.length = Z0 size := by unfold DB; rw [Nat.sub_self]; rfl
theorem DB_step (hft : ∀ k, k < parts.length → fits size parts k) {j : Nat} (hj : j < parts.length) : putB (DB size parts (j + 1)) (Wr size parts j true) = DB size parts j := by
  have e : DB size parts j = spl (DB size parts (j + 1)) (cN size parts j) (pN parts j) := by
    unfold DB
    rw [show parts.length - j = parts.length - (j + 1) + 1 by omega, dsc, show parts.length - 1 - (parts.length - (j + 1)) = j by omega]
  have hl := dsc_len (fit_c hok hft) (fit_s hok) (B := Z0 size) (by simp [Z0]) (t := parts.length - (j + 1)) (by omega)
  have h1 := fit_c hok hft j hj
  have h2 := fit_s hok (j + 1) (by omega)
  rw [e]
  unfold putB
  by_cases hp : parts.getD j [] = []
  · rw [if_pos (by simp only [Wr, if_true]; exact hp), show pN parts j = [] from hp, spl_nil]
  · rw [if_neg (by simp only [Wr, if_true]; exact hp)]
    have e2 : padTo (DB size parts (j + 1)) (cN size parts j + (pN parts j).length) = DB size parts (j + 1) := by
      unfold padTo
      rw [show cN size parts j + (pN parts j).length - (DB size parts (j + 1)).length = 0 by unfold DB; omega]
      simp
    simp only [Wr, if_true]
    exact congrArg (fun z => spl z (cN size parts j) (pN parts j)) e2
theorem DB_end (hft : ∀ k, k < parts.length → fits size parts k) : DB size parts 0 = togB size parts parts.length := by
  unfold DB
  rw [Nat.sub_zero, dsc_all (fit_c hok hft) (fit_s hok) (by simp [Z0]), asc_togB]
theorem DB_len (hft : ∀ k, k < parts.length → fits size parts k) (j : Nat) : (DB size parts j).length ≤ 400 := by
  have h3 := cut_in hok
  have hl := dsc_len (fit_c hok hft) (fit_s hok) (B := Z0 size) (by simp [Z0]) (t := parts.length - j) (by omega)
  unfold DB; omega
theorem tw_begin {B : List UInt8} {m : Nat} (hm : m < parts.length) : beginF (TF size parts B ((m + 1 : Nat) : Int) m (fun _ => false)) (cutA size parts.length m) (cutA size parts.length (m + 1)) true = (TF size parts B ((m + 1 + 1 : Nat) : Int) (m + 1) (fun _ => false), ((m + 1 : Nat) : Int), 0) :=
  tf_begin hok hm (by omega)
theorem tw_write {B : List UInt8} {nx : Int} {m : Nat} {d : Nat → Bool} {i : Nat} (hi : i < m) (hd : d i = false) (hf : fits size parts i) : writeF (TF size parts B nx m d) ((i + 1 : Nat) : Int) (parts.getD i []) = (TF size parts B nx m (setd d i), 0) :=
  tf_write hok hi hd hf
theorem tw_close (hft : ∀ k, k < parts.length → fits size parts k) {nx : Int} {m : Nat} (hm : m < parts.length) : closeF (TF size parts (DB size parts (m + 1)) nx (m + 1) (fun _ => true)) ((m + 1 : Nat) : Int) = (TF size parts (DB size parts m) nx m (fun _ => true), 0) := by
  have h := tf_close hok (B := DB size parts (m + 1)) (nx := nx) (m := m) (d := fun _ => true)
  rw [DB_step hok hft hm] at h
  exact h
end
theorem set_setd {ds : List Bool} {j : Nat} (hj : j < ds.length) : setd (fun i => ds.getD i false) j = fun i => (ds.set j true).getD i false := by
  funext i
  unfold setd
  simp only [List.getD_eq_getElem?_getD]
  rw [List.getElem?_set]
  by_cases e : i = j
  · subst e; rw [if_pos rfl, if_pos rfl, if_pos hj]; rfl
  · rw [if_neg e, if_neg (Ne.symm e)]
theorem numsT_len (m : Nat) : (numsT m).length = m := by simp [numsT]
theorem numsT_get {m i : Nat} (h : i < m) : (numsT m)[i]? = some (((i + 1 : Nat) : Int)) := by
  unfold numsT; rw [List.getElem?_map, List.getElem?_range h]; rfl
theorem numsT_succ (m : Nat) : numsT (m + 1) = numsT m ++ [((m + 1 : Nat) : Int)] := by
  unfold numsT; rw [List.range_succ, List.map_append]; rfl
theorem togV_zero {size : Int} {parts : List (List UInt8)} (h : (togV size parts).2 = 0) : ¬ badC size parts.length ∧ (∀ k, k < parts.length → fits size parts k) ∧ (togV size parts).1 = togB size parts parts.length := by
  unfold togV at h ⊢
  split at h
  · cases h
  · rename_i hb
    rw [if_neg hb]
    split at h
    · rename_i hf
      rw [if_pos hf]; exact ⟨hb, allFit_iff.1 hf, rfl⟩
    · cases h
def boE : Enc Bool := ⟨4, 1, fun b => [.bool b], fun _ => rfl, fun s v h => by
  simp only [List.mem_cons, List.not_mem_nil, or_false] at h; rcases h with rfl; rfl⟩
end Go.Proofs.Ytgbckamaenapeaa
