/-
  A part of the proof of the claim that this folder bears.
-/
import Derived.Test.YtnhippfllgnngaaPAM
import Derived.Test.YtnhippfllgnngaaPAA
import Derived.Test.YtnhippfllgnngaaKC
/- The text SN6. -/
set_option linter.unusedVariables false
set_option linter.unusedSimpArgs false
set_option maxRecDepth 10000
namespace Go.Proofs.Ytnhippfllgnngaa
open Go Go.KK Dm

theorem lawOrder {L : List Asn} {a la lb : Option Addr} {n cap ln lc lm lq : Nat} {rs : List Rg} {hs gs : List Hdr} {xss yss : List (List Int)} [SlIn rgE L a rs] [SlIn hE L la hs] [RowsR intE L hs xss] [SlIn hE L lb gs] [RowsR intE L gs yss] (hn : n = rs.length) (hl : ln = hs.length) (hm : lm = gs.length) (hb : hs.length ≤ 9223372036854775807) (hb2 : gs.length ≤ 9223372036854775807) (hnA : la = none → hs.length = 0 ∧ lc = 0) (hnB : lb = none → gs.length = 0 ∧ lq = 0) :
    CallS Try.prog 12 [.agg #[.slice a n cap, .slice la ln lc], .slice lb lm lq].toArray L (fun v M => v = .bool true ∧ M = L) := by
  subst hn
  subst hl
  refine CallS.fact (fun h s => RowsR.len (E := intE) (hs := hs) (xss := xss) s) fun hnn => ?_
  have hhl : hs.length = xss.length := rows_len hnn
  subst hm
  refine CallS.fact (fun h s => RowsR.len (E := intE) (hs := gs) (xss := yss) s) fun hnn2 => ?_
  have hgl : gs.length = yss.length := rows_len hnn2
  refine CallS.ent ?_
  refine CallS.enter Try.func12 rfl rfl rfl rfl rfl ?_
  refine J.seq rfl ?_
  refine J.region rfl ?_
  refine JO.eff rfl rfl rfl (Eff.box (cs := [_, _]) rfl rfl) ?_
  rintro _ _ ⟨b2, rfl, rfl⟩
  refine JO.pur rfl rfl rfl (Pur.assign rfl) ?_
  refine JO.nil ?_
  refine J.seq rfl ?_
  refine J.seq rfl ?_
  refine J.region rfl ?_
  refine JO.pur rfl rfl rfl (Pur.loadA rfl rfl rfl CellsIn.blk) ?_
  refine JO.effR rfl rfl rfl (Eff.call rfl (largeS_ok (rs := rs) (hs := hs) (xss := xss) rfl rfl hb)) ?_
  refine JO.pur rfl rfl rfl (Pur.move rfl) ?_
  refine JO.splitB 20 rfl (fun h20 => ?_) (fun h20 => ?_)
  · try simp only [decide_eq_true_eq, decide_eq_false_iff_not, Bool.not_eq_true', Bool.not_eq_false', Bool.and_eq_true, Bool.or_eq_true, Bool.and_eq_false_iff, Bool.or_eq_false_iff, Option.isNone_some, Option.isSome_some, Option.isNone_none, Option.isSome_none, Int.not_lt, Int.not_le, beq_iff_eq, beq_eq_false_iff_ne, bne_iff_ne, ne_eq, Bool.not_not, Decidable.not_not] at h20
    refine JO.no rfl rfl rfl ?_
    refine JO.no rfl rfl rfl ?_
    refine JO.pur rfl rfl rfl (Pur.pickT rfl rfl) ?_
    refine JO.nil ?_
    refine J.condT rfl rfl ?_
    refine J.seq rfl ?_
    refine J.region rfl ?_
    refine JO.effR rfl rfl rfl (Eff.call rfl (first_ok)) ?_
    refine JO.pur rfl rfl rfl (Pur.assign rfl) ?_
    refine JO.nil ?_
    refine J.ret rfl rfl ?_
    refine ⟨_, _, ⟨rfl, rfl⟩, rfl, SubC.out⟩
  · try simp only [decide_eq_true_eq, decide_eq_false_iff_not, Bool.not_eq_true', Bool.not_eq_false', Bool.and_eq_true, Bool.or_eq_true, Bool.and_eq_false_iff, Bool.or_eq_false_iff, Option.isNone_some, Option.isSome_some, Option.isNone_none, Option.isSome_none, Int.not_lt, Int.not_le, beq_iff_eq, beq_eq_false_iff_ne, bne_iff_ne, ne_eq, Bool.not_not, Decidable.not_not] at h20
    refine JO.pur rfl rfl rfl (Pur.move rfl) ?_
    refine JO.effR rfl rfl rfl (Eff.call rfl (long_ok (hs := gs) (xss := yss) rfl hb2)) ?_
    refine JO.pur rfl rfl rfl (Pur.pickF rfl rfl) ?_
    refine JO.nil ?_
    refine J.splitB 23 rfl (fun h23 => ?_) (fun h23 => ?_)
    · try simp only [decide_eq_true_eq, decide_eq_false_iff_not, Bool.not_eq_true', Bool.not_eq_false', Bool.and_eq_true, Bool.or_eq_true, Bool.and_eq_false_iff, Bool.or_eq_false_iff, Option.isNone_some, Option.isSome_some, Option.isNone_none, Option.isSome_none, Int.not_lt, Int.not_le, beq_iff_eq, beq_eq_false_iff_ne, bne_iff_ne, ne_eq, Bool.not_not, Decidable.not_not] at h23
      refine J.condT rfl rfl ?_
      refine J.seq rfl ?_
      refine J.region rfl ?_
      refine JO.effR rfl rfl rfl (Eff.call rfl (first_ok)) ?_
      refine JO.pur rfl rfl rfl (Pur.assign rfl) ?_
      refine JO.nil ?_
      refine J.ret rfl rfl ?_
      refine ⟨_, _, ⟨rfl, rfl⟩, rfl, SubC.out⟩
    · try simp only [decide_eq_true_eq, decide_eq_false_iff_not, Bool.not_eq_true', Bool.not_eq_false', Bool.and_eq_true, Bool.or_eq_true, Bool.and_eq_false_iff, Bool.or_eq_false_iff, Option.isNone_some, Option.isSome_some, Option.isNone_none, Option.isSome_none, Int.not_lt, Int.not_le, beq_iff_eq, beq_eq_false_iff_ne, bne_iff_ne, ne_eq, Bool.not_not, Decidable.not_not] at h23
      have hyl := (long_b (xss := yss) (by simpa using h23)).1
      refine J.condF rfl rfl ?_
      refine J.skip rfl ?_
      refine J.seq rfl ?_
      refine J.region rfl ?_
      refine JO.pur rfl rfl rfl (Pur.loadA rfl rfl rfl CellsIn.blk) ?_
      refine JO.pur rfl rfl rfl (Pur.move rfl) ?_
      refine JO.eff rfl rfl rfl (Eff.call rfl (s_AddAll (rs := rs) (hs := hs) (gs := gs) (xss := xss) (yss := yss) rfl rfl rfl hnA hnB (by omega))) ?_
      rintro _ _ ⟨pa28, pc28, qa28, qc28, hs28, rfl, rfl⟩
      refine JO.pur rfl rfl rfl (Pur.move rfl) ?_
      refine JO.pur rfl rfl rfl (Pur.extract rfl rfl) ?_
      refine JO.pur rfl rfl rfl (Pur.extract rfl rfl) ?_
      refine JO.pur rfl rfl rfl (Pur.extract rfl rfl) ?_
      refine JO.eff rfl rfl rfl (Eff.alloc (cs := [_, _]) rfl) ?_
      rintro _ _ ⟨b5, rfl, rfl⟩
      refine JO.effN rfl rfl (Eff.storeBA (cs' := [_, _]) rfl rfl (by rfl) (by rfl) (by rfl)) ?_
      rintro _ _ ⟨rfl, rfl⟩
      refine JO.pur rfl rfl rfl (Pur.assign rfl) ?_
      refine JO.pur rfl rfl rfl (Pur.assign rfl) ?_
      refine JO.nil ?_
      refine J.seq rfl ?_
      refine J.seq rfl ?_
      refine J.region rfl ?_
      refine JO.pur rfl rfl rfl (Pur.move rfl) ?_
      refine JO.pur rfl rfl rfl (Pur.neqI rfl rfl) ?_
      refine JO.nil ?_
      refine J.splitB 33 rfl (fun h33 => ?_) (fun h33 => ?_)
      · try simp only [decide_eq_true_eq, decide_eq_false_iff_not, Bool.not_eq_true', Bool.not_eq_false', Bool.and_eq_true, Bool.or_eq_true, Bool.and_eq_false_iff, Bool.or_eq_false_iff, Option.isNone_some, Option.isSome_some, Option.isNone_none, Option.isSome_none, Int.not_lt, Int.not_le, beq_iff_eq, beq_eq_false_iff_ne, bne_iff_ne, ne_eq, Bool.not_not, Decidable.not_not] at h33
        have hne : (addS rs xss yss).2 ≠ 0 := by simpa using h33
        have hn0 : addN rs xss yss = 0 := if_pos hne
        refine J.condT rfl rfl ?_
        refine J.seq rfl ?_
        refine J.region rfl ?_
        refine JO.pur rfl rfl rfl (Pur.move rfl) ?_
        refine JO.pur rfl rfl rfl (Pur.eqlI rfl rfl) ?_
        refine JO.pur rfl rfl rfl (Pur.move rfl) ?_
        refine JO.setv (u' := .bool true) 36 rfl (congrArg Value.bool (decide_eq_true hn0)) ?_
        refine JO.effR rfl rfl rfl (Eff.call rfl (first_ok)) ?_
        refine JO.pur rfl rfl rfl (Pur.pickT rfl rfl) ?_
        refine JO.pur rfl rfl rfl (Pur.assign rfl) ?_
        refine JO.nil ?_
        refine J.ret rfl rfl ?_
        refine ⟨_, _, ⟨rfl, rfl⟩, rfl, SubC.out⟩
      · try simp only [decide_eq_true_eq, decide_eq_false_iff_not, Bool.not_eq_true', Bool.not_eq_false', Bool.and_eq_true, Bool.or_eq_true, Bool.and_eq_false_iff, Bool.or_eq_false_iff, Option.isNone_some, Option.isSome_some, Option.isNone_none, Option.isSome_none, Int.not_lt, Int.not_le, beq_iff_eq, beq_eq_false_iff_ne, bne_iff_ne, ne_eq, Bool.not_not, Decidable.not_not] at h33
        have h00 : (addS rs xss yss).2 = 0 := by simpa using h33
        obtain ⟨hs0, hpl, hjl, hv⟩ := addS_ok h00
        obtain ⟨hrv, hrn⟩ := add_rev h00
        have hn0 : addN rs xss yss = ((madeL rs ((xss ++ yss).map (atS rs))).length : Int) - (xss.length : Int) := by unfold addN; rw [hv, if_neg (fun h => h rfl)]
        rw [hv]
        have hx4 := hs0.2.1
        have hjo := made_ok' hs0.1 hjl
        have htt := two_self hjo
        have hrw2 : RowsR intE L gs yss := inferInstance
        refine J.condF rfl rfl ?_
        refine J.skip rfl ?_
        refine J.seq rfl ?_
        refine J.region rfl ?_
        refine JO.pur rfl rfl rfl (Pur.assign rfl) ?_
        refine JO.nil ?_
        refine J.seq rfl ?_
        refine J.region rfl ?_
        refine JO.pur rfl rfl rfl (Pur.loadA rfl rfl rfl CellsIn.blk) ?_
        refine JO.eff rfl rfl rfl (Eff.alloc (cs := [_, _]) rfl) ?_
        rintro _ _ ⟨b9, rfl, rfl⟩
        refine JO.effN rfl rfl (Eff.storeBA (cs' := [_, _]) rfl rfl (by rfl) (by rfl) (by rfl)) ?_
        rintro _ _ ⟨rfl, rfl⟩
        refine JO.nil ?_
        refine J.seq rfl ?_
        refine J.seq rfl ?_
        refine J.region rfl ?_
        refine JO.pur rfl rfl rfl (Pur.assign rfl) ?_
        refine JO.nil ?_
        refine J.block rfl ?_
        refine J.loopF (ι := Nat × Option Addr × Nat × Option Addr × Nat × Option Addr × Nat × Asn × List Hdr) (fun q => q.1 ≤ yss.length ∧ SpIn L q.2.2.2.2.2.2.2.1 q.2.2.2.1 rs q.2.2.2.2.2.1 q.2.2.2.2.2.2.1 q.2.2.2.2.2.2.2.2 (ordN rs xss yss (q.1))) (fun q => [(8, .slice q.2.1 q.1 q.2.2.1), (10, .int .i64 (q.1 : Int))]) [(1, _), (2, _), (5, _), (6, _), (9, _)] (fun q => blk b9 (.cells #[.slice q.2.2.2.1 rs.length q.2.2.2.2.1, .slice q.2.2.2.2.2.1 (ordN rs xss yss (q.1)).length q.2.2.2.2.2.2.1] 27) :: q.2.2.2.2.2.2.2.1 :: sl hE q.2.1 q.2.2.1 (gs.reverse.take (q.1)) :: blk b5 (.cells #[.slice pa28 rs.length pc28, .slice qa28 (madeL rs ((xss ++ yss).map (atS rs))).length qc28] 27) :: sl rgE pa28 pc28 rs :: sl hE qa28 qc28 hs28 :: rows intE hs28 (madeL rs ((xss ++ yss).map (atS rs))) :: blk b2 (.cells #[.slice a rs.length cap, .slice la hs.length lc] 27) :: L) (fun q => yss.length - q.1) (0, none, 0, a, cap, la, lc, sl intE none 0 [], hs) rfl (.cons rfl rfl (.cons rfl rfl (.cons rfl rfl (.cons rfl rfl (.cons rfl rfl .nil))))) (.cons rfl rfl (.cons rfl rfl .nil)) (fun h s => by have s2 := sl_nil_new (E := hE) (sl_nil_new (E := intE) s); dsimp only; rw [List.take_zero, ord_zero hs0, ← hhl]; exact SubC.out (L := sl hE none 0 [] :: sl intE none 0 [] :: _) h s2) ⟨Nat.zero_le _, (SpIn.arg hhl hnA).cast (ord_zero hs0)⟩ ?_
        rintro ⟨k, a8, c8, pa, pc, qa, qc, A, hz⟩ ⟨hk, hsp⟩ ihk
        try dsimp only
        dsimp only at hk hsp
        haveI hI1 : ∀ (M : List Asn) [SubC M L], SlIn rgE (A :: M) pa rs := fun M _ => hsp.rg M SubC.out
        haveI hI2 : ∀ (M : List Asn) [SubC M L], SlIn hE (A :: M) qa hz := fun M _ => hsp.hd M SubC.out
        haveI hI3 : ∀ (M : List Asn) [SubC M L], RowsR intE (A :: M) hz (ordN rs xss yss (k)) := fun M _ => hsp.rw_ M SubC.out
        have hzl := hsp.len
        have hol := ord_len (rs := rs) (xss := xss) (yss := yss) (k := k)
        have hno : okS rs (ordN rs xss yss (k)) := made_ok' hs0.1 (by have := hol; unfold ordN at this; omega)
        have htl : (gs.reverse.take k).length = k := by rw [List.length_take, List.length_reverse]; omega
        refine J.seq rfl ?_
        refine J.seq rfl ?_
        refine J.region rfl ?_
        refine JO.pur rfl rfl rfl (Pur.move rfl) ?_
        refine JO.pur rfl rfl rfl (Pur.move rfl) ?_
        refine JO.pur rfl rfl rfl (Pur.len rfl) ?_
        refine JO.pur rfl rfl rfl (Pur.lss rfl rfl) ?_
        refine JO.nil ?_
        refine J.splitB 43 rfl (fun h43 => ?_) (fun h43 => ?_)
        · try simp only [decide_eq_true_eq, decide_eq_false_iff_not, Bool.not_eq_true', Bool.not_eq_false', Bool.and_eq_true, Bool.or_eq_true, Bool.and_eq_false_iff, Bool.or_eq_false_iff, Option.isNone_some, Option.isSome_some, Option.isNone_none, Option.isSome_none, Int.not_lt, Int.not_le, beq_iff_eq, beq_eq_false_iff_ne, bne_iff_ne, ne_eq, Bool.not_not, Decidable.not_not] at h43
          have hkl : k < yss.length := by omega
          obtain ⟨x, hX⟩ : ∃ x, yss[k]? = some x := ⟨_, List.getElem?_eq_getElem (by omega)⟩
          obtain ⟨hdx, hHx⟩ : ∃ hdx, gs[k]? = some hdx := ⟨_, List.getElem?_eq_getElem (by omega)⟩
          have hdn := hdr_n hnn2 hHx hX
          have hxm := List.mem_of_getElem? hX
          obtain ⟨hd, hH⟩ : ∃ hd, gs[gs.length - 1 - k]? = some hd := ⟨_, List.getElem?_eq_getElem (by omega)⟩
          have htk : gs.reverse.take (k + 1) = gs.reverse.take k ++ [hd] := take_get (by rw [List.getElem?_reverse (by omega)]; exact hH)
          have hix : (gs.length : Int) - 1 - (k : Int) = ((gs.length - 1 - k : Nat) : Int) := by omega
          obtain ⟨hstep1, hstep2⟩ := ord_step hs0 hpl hX
          have hhas : hasS rs (ordN rs xss yss (k)) x = (decide (x ∈ (ordN rs xss yss (k))), 0) := if_neg (not_not_intro hno)
          refine J.fact (fun h s => RowsR.fit (E := intE) (hs := gs) (xss := yss) s hHx hX) fun hfit => ?_
          refine J.condT rfl rfl ?_
          refine J.skip rfl ?_
          refine J.seq rfl ?_
          refine J.block rfl ?_
          refine J.seq rfl ?_
          refine J.region rfl ?_
          refine JO.pur rfl rfl rfl (Pur.move rfl) ?_
          refine JO.pur rfl rfl rfl (Pur.move rfl) ?_
          refine JO.pur rfl rfl rfl (Pur.move rfl) ?_
          refine JO.pur rfl rfl rfl (Pur.len rfl) ?_
          refine JO.pur rfl rfl rfl (Pur.sub rfl rfl (wr64 (by omega))) ?_
          refine JO.pur rfl rfl rfl (Pur.move rfl) ?_
          refine JO.pur rfl rfl rfl (Pur.sub rfl rfl (wr64 (by omega))) ?_
          refine JO.pur rfl rfl rfl (Pur.idx rfl rfl rfl (by first | rfl | (simp; done) | omega) hix (by omega)) ?_
          refine JO.pur rfl rfl rfl (Pur.load rfl (CellIn.el0 rfl hH rfl)) ?_
          refine JO.setv (u' := .slice hd.a hd.n hd.cap) 54 rfl rfl ?_
          refine JO.eff rfl rfl rfl (Eff.buildSlice hE [hd] rfl rfl rfl rfl rfl rfl rfl) ?_
          rintro _ _ ⟨b55, rfl, -, rfl⟩
          refine JO.eff rfl rfl rfl (Eff.append rfl rfl rfl rfl (by first | rfl | omega | (simp; done) | (simp; omega)) (by first | rfl | omega | (simp; done) | (simp; omega)) (by decide) (by simp; omega) (by simp; omega) (fun h => by cases h)) ?_
          rintro _ _ ⟨a56, c56, rfl, rfl⟩
          refine JO.pur rfl rfl rfl (Pur.assign rfl) ?_
          refine JO.nil ?_
          refine J.seq rfl ?_
          refine J.mask0 (n := 11) [] rfl Try.mixed rfl (by kernel_rfl) ?_
          refine JM.take 0 (fun _ h => h) rfl (by kernel_rfl) rfl rfl rfl (m' := 1) rfl (Pur.loadA rfl rfl rfl CellsIn.blk) ?_
          refine JM.take 1 (fun _ h => h) rfl (by kernel_rfl) rfl rfl rfl (m' := 3) rfl (Pur.move rfl) ?_
          refine JM.take 2 (fun _ h => h) rfl (by kernel_rfl) rfl rfl rfl (m' := 7) rfl (Pur.move rfl) ?_
          refine JM.take 3 (fun _ h => h) rfl (by kernel_rfl) rfl rfl rfl (m' := 15) rfl (Pur.idx rfl rfl rfl (by first | rfl | (simp; done) | omega) rfl (by omega)) ?_
          refine JM.take 4 (fun _ h => h) rfl (by kernel_rfl) rfl rfl rfl (m' := 31) rfl (Pur.load rfl (CellIn.el0 rfl hHx rfl)) ?_
          refine JM.setv (u' := .slice hdx.a x.length hdx.cap) 62 rfl (by rw [← hdn]) ?_
          refine JM.one (i := 5) (by kernel_rfl) ?_
          refine JMi.effR (fun _ h => h) rfl rfl rfl rfl (m' := 63) rfl (Eff.call rfl (@s_Has _ _ _ _ _ _ _ _ _ _ rs hz (ordN rs xss yss (k)) x inferInstance inferInstance inferInstance (RowsR.row (E := intE) inferInstance hHx hX) rfl hzl.symm rfl)) ?_
          rw [hhas]
          refine JM.take 6 (fun _ h => h) rfl (by kernel_rfl) rfl rfl rfl (m' := 127) rfl (Pur.move rfl) ?_
          refine JM.take 7 (fun _ h => h) rfl (by kernel_rfl) rfl rfl rfl (m' := 255) rfl (Pur.extract rfl rfl) ?_
          refine JM.take 8 (fun _ h => h) rfl (by kernel_rfl) rfl rfl rfl (m' := 511) rfl (Pur.extract rfl rfl) ?_
          refine JM.take 9 (fun _ h => h) rfl (by kernel_rfl) rfl rfl rfl (m' := 1023) rfl (Pur.assign rfl) ?_
          refine JM.take 10 (fun _ h => h) rfl (by kernel_rfl) rfl rfl rfl (m' := 2047) rfl (Pur.assign rfl) ?_
          refine JM.done rfl ?_
          refine J.seq rfl ?_
          refine J.region rfl ?_
          refine JO.pur rfl rfl rfl (Pur.move rfl) ?_
          refine JO.pur rfl rfl rfl (Pur.not rfl) ?_
          refine JO.nil ?_
          refine J.splitB 67 rfl (fun h67 => ?_) (fun h67 => ?_)
          · try simp only [decide_eq_true_eq, decide_eq_false_iff_not, Bool.not_eq_true', Bool.not_eq_false', Bool.and_eq_true, Bool.or_eq_true, Bool.and_eq_false_iff, Bool.or_eq_false_iff, Option.isNone_some, Option.isSome_some, Option.isNone_none, Option.isSome_none, Int.not_lt, Int.not_le, beq_iff_eq, beq_eq_false_iff_ne, bne_iff_ne, ne_eq, Bool.not_not, Decidable.not_not] at h67
            have hni : ¬ x ∈ (ordN rs xss yss (k)) := by simpa using h67
            have ha1 : a1S rs (ordN rs xss yss (k)) x = ((rs, (ordN rs xss yss (k + 1))), 0) := by
              have hol1 := ord_len (rs := rs) (xss := xss) (yss := yss) (k := k + 1)
              unfold a1S
              rw [if_neg (not_not_intro hno), if_neg (not_not_intro (hpl x hxm)), if_neg hni, hstep2, if_neg (by omega)]
            refine J.condT rfl rfl ?_
            refine J.seq rfl ?_
            refine J.cut1 (ι := Nat × Option Addr × Nat × Option Addr × Nat × List Hdr) (fun q => True) (fun q => [(13, .pointer (some ⟨q.1, 0, none⟩)), (14, .int .i64 0)]) [(1, _), (2, _), (5, _), (6, _), (8, _), (9, _), (10, _)] (fun q => blk q.1 (.cells #[.slice q.2.1 rs.length q.2.2.1, .slice q.2.2.2.1 (ordN rs xss yss (k + 1)).length q.2.2.2.2.1] 27) :: sl rgE q.2.1 q.2.2.1 rs :: sl hE q.2.2.2.1 q.2.2.2.2.1 q.2.2.2.2.2 :: rows intE q.2.2.2.2.2 (ordN rs xss yss (k + 1)) :: blk b9 (.cells #[.slice pa rs.length pc, .slice qa (ordN rs xss yss (k)).length qc] 27) :: A :: sl hE a56 c56 (gs.reverse.take k ++ [hd]) :: blk b5 (.cells #[.slice pa28 rs.length pc28, .slice qa28 (madeL rs ((xss ++ yss).map (atS rs))).length qc28] 27) :: sl rgE pa28 pc28 rs :: sl hE qa28 qc28 hs28 :: rows intE hs28 (madeL rs ((xss ++ yss).map (atS rs))) :: blk b2 (.cells #[.slice a rs.length cap, .slice la hs.length lc] 27) :: L) (.cons rfl rfl (.cons rfl rfl (.cons rfl rfl (.cons rfl rfl (.cons rfl rfl (.cons rfl rfl (.cons rfl rfl .nil))))))) ?_ ?_
            · rintro ⟨b13, pa74, pc74, qa74, qc74, hs74⟩ -
              try dsimp only
              refine J.seq rfl ?_
              refine J.seq rfl ?_
              refine J.region rfl ?_
              refine JO.pur rfl rfl rfl (Pur.move rfl) ?_
              refine JO.pur rfl rfl rfl (Pur.neqI rfl rfl) ?_
              refine JO.nil ?_
              refine J.setv (u' := .bool false) 78 rfl (congrArg Value.bool (decide_eq_false (fun e => e rfl))) ?_
              refine J.condF rfl rfl ?_
              refine J.skip rfl ?_
              refine J.fact (fun h s => RowsR.len (E := intE) (hs := hs74) (xss := (ordN rs xss yss (k + 1))) s) fun hnn7 => ?_
              refine J.fact (fun h s => SlH.nil (E := hE) (a := qa74) (cap := qc74) (xs := hs74) s) fun hnl7 => ?_
              refine J.region rfl ?_
              refine JO.pur rfl rfl rfl (Pur.loadA rfl rfl rfl CellsIn.blk) ?_
              refine JO.effN rfl rfl (Eff.storeBA (cs' := [_, _]) rfl rfl (by rfl) (by rfl) (by rfl)) ?_
              rintro _ _ ⟨rfl, rfl⟩
              refine JO.nil ?_
              refine J.inBlock ?_
              refine J.region rfl ?_
              refine JO.pur rfl rfl rfl (Pur.move rfl) ?_
              refine JO.pur rfl rfl rfl (Pur.add rfl rfl (wr64 (by omega))) ?_
              refine JO.pur rfl rfl rfl (Pur.assign rfl) ?_
              refine JO.nil ?_
              exact J.weaken (.cons rfl (by show Value.slice a56 _ c56 = Value.slice a56 (k + 1) c56; rw [htl]; rfl) (.cons rfl (congrArg (Value.int .i64) (by first | rfl | (dsimp only; omega))) (.cons rfl rfl (.cons rfl rfl (.cons rfl rfl (.cons rfl rfl (.cons rfl rfl .nil))))))) (fun h s => by dsimp only; rw [htk]; have s2 : Sat h (sl rgE pa74 pc74 rs :: sl hE qa74 qc74 hs74 :: rows intE hs74 (ordN rs xss yss (k + 1)) :: blk b9 (.cells #[.slice pa74 rs.length pc74, .slice qa74 (ordN rs xss yss (k + 1)).length qc74] 27) :: sl hE a56 c56 (gs.reverse.take k ++ [hd]) :: blk b5 (.cells #[.slice pa28 rs.length pc28, .slice qa28 (madeL rs ((xss ++ yss).map (atS rs))).length qc28] 27) :: sl rgE pa28 pc28 rs :: sl hE qa28 qc28 hs28 :: rows intE hs28 (madeL rs ((xss ++ yss).map (atS rs))) :: blk b2 (.cells #[.slice a rs.length cap, .slice la hs.length lc] 27) :: L) := SubC.out h s; have s3 : Sat h (star [sl rgE pa74 pc74 rs, sl hE qa74 qc74 hs74, rows intE hs74 (ordN rs xss yss (k + 1))] :: blk b9 (.cells #[.slice pa74 rs.length pc74, .slice qa74 (ordN rs xss yss (k + 1)).length qc74] 27) :: sl hE a56 c56 (gs.reverse.take k ++ [hd]) :: blk b5 (.cells #[.slice pa28 rs.length pc28, .slice qa28 (madeL rs ((xss ++ yss).map (atS rs))).length qc28] 27) :: sl rgE pa28 pc28 rs :: sl hE qa28 qc28 hs28 :: rows intE hs28 (madeL rs ((xss ++ yss).map (atS rs))) :: blk b2 (.cells #[.slice a rs.length cap, .slice la hs.length lc] 27) :: L) := Sat.star.2 s2; exact SubC.out h s3) (ihk (k + 1, a56, c56, pa74, pc74, qa74, qc74, star [sl rgE pa74 pc74 rs, sl hE qa74 qc74 hs74, rows intE hs74 (ordN rs xss yss (k + 1))], hs74) ⟨by dsimp only; omega, SpIn.own (rows_len hnn7) (fun e => by obtain ⟨g1, g2⟩ := hnl7 e; exact ⟨by rw [g1]; rfl, g2⟩)⟩ (by dsimp only; omega))
            · intro cuta14
              refine J.mask0 (n := 12) [5] rfl Try.mixed rfl (by kernel_rfl) ?_
              refine JM.take 0 (fun _ h => h) rfl (by kernel_rfl) rfl rfl rfl (m' := 1) rfl (Pur.loadA rfl rfl rfl CellsIn.blk) ?_
              refine JM.take 1 (fun _ h => h) rfl (by kernel_rfl) rfl rfl rfl (m' := 3) rfl (Pur.move rfl) ?_
              refine JM.take 2 (fun _ h => h) rfl (by kernel_rfl) rfl rfl rfl (m' := 7) rfl (Pur.move rfl) ?_
              refine JM.take 3 (fun _ h => h) rfl (by kernel_rfl) rfl rfl rfl (m' := 15) rfl (Pur.idx rfl rfl rfl (by first | rfl | (simp; done) | omega) rfl (by omega)) ?_
              refine JM.take 4 (fun _ h => h) rfl (by kernel_rfl) rfl rfl rfl (m' := 31) rfl (Pur.load rfl (CellIn.el0 rfl hHx rfl)) ?_
              refine JM.setv (u' := .slice hdx.a x.length hdx.cap) 73 rfl (by rw [← hdn]) ?_
              refine JM.many (rs := [5, 9]) (by kernel_rfl) rfl (fun i hi => ?_)
              simp only [List.mem_cons, List.not_mem_nil, or_false] at hi
              rcases hi with rfl | rfl
              · skip
                refine JMi.eff rfl rfl rfl rfl (m' := 63) rfl (Eff.call rfl (@s_Add _ _ _ _ _ _ _ _ _ _ rs hz (ordN rs xss yss (k)) x inferInstance inferInstance inferInstance (RowsR.row (E := intE) inferInstance hHx hX) rfl hzl.symm rfl hsp.nil (fun e => by have := hfit.1 e; rw [hdn] at this; exact this) (by rw [← hdn]; exact hfit.2))) ?_
                rintro _ _ ⟨pa74, pc74, qa74, qc74, hs74, rfl, rfl⟩
                refine ⟨.inl (by simp), ?_⟩
                rw [ha1]
                refine JM.takeF 6 (.inl (by kernel_rfl)) rfl (by kernel_rfl) rfl rfl rfl (m' := 127) rfl (Pur.move rfl) ?_
                refine JM.takeF 7 (.inl (by kernel_rfl)) rfl (by kernel_rfl) rfl rfl rfl (m' := 255) rfl (Pur.extract rfl rfl) ?_
                refine JM.takeF 8 (.inl (by kernel_rfl)) rfl (by kernel_rfl) rfl rfl rfl (m' := 511) rfl (Pur.extract rfl rfl) ?_
                refine JM.one (i := 9) (by kernel_rfl) ?_
                refine JMi.eff rfl rfl rfl rfl (m' := 1023) rfl (Eff.alloc (cs := [_, _]) rfl) ?_
                rintro _ _ ⟨b13, rfl, rfl⟩
                refine ⟨.inl (.inr (by kernel_rfl)), ?_⟩
                refine JM.one (i := 10) (by kernel_rfl) ?_
                refine JMi.effN rfl rfl rfl (m' := 2047) rfl (Eff.storeBA (cs' := [_, _]) rfl rfl (by rfl) (by rfl) (by rfl)) ?_
                rintro _ _ ⟨rfl, rfl⟩
                refine ⟨.inl (.inr (by kernel_rfl)), ?_⟩
                refine JM.takeF 11 (.inl (by kernel_rfl)) rfl (by kernel_rfl) rfl rfl rfl (m' := 4095) rfl (Pur.assign rfl) ?_
                refine JM.done rfl ?_
                exact J.weaken (.cons rfl rfl (.cons rfl rfl (.cons rfl rfl (.cons rfl rfl (.cons rfl rfl (.cons rfl rfl (.cons rfl rfl (.cons rfl rfl (.cons rfl rfl .nil))))))))) (by first | exact fun _ h => h | exact SubC.out | (dsimp only; exact SubC.out)) (cuta14 (b13, pa74, pc74, qa74, qc74, hs74) trivial)
              · skip
                refine JMi.eff rfl rfl rfl rfl (m' := 543) rfl (Eff.alloc (cs := [_, _]) rfl) ?_
                rintro _ _ ⟨b13, rfl, rfl⟩
                refine ⟨.inr (fun _ h => h.tail), ?_⟩
                refine JM.one (i := 5) (by kernel_rfl) ?_
                refine JMi.eff rfl rfl rfl rfl (m' := 575) rfl (Eff.call rfl (@s_Add _ _ _ _ _ _ _ _ _ _ rs hz (ordN rs xss yss (k)) x inferInstance inferInstance inferInstance (RowsR.row (E := intE) inferInstance hHx hX) rfl hzl.symm rfl hsp.nil (fun e => by have := hfit.1 e; rw [hdn] at this; exact this) (by rw [← hdn]; exact hfit.2))) ?_
                rintro _ _ ⟨pa74, pc74, qa74, qc74, hs74, rfl, rfl⟩
                refine ⟨.inl (by simp), ?_⟩
                rw [ha1]
                refine JM.takeF 6 (.inl (by kernel_rfl)) rfl (by kernel_rfl) rfl rfl rfl (m' := 639) rfl (Pur.move rfl) ?_
                refine JM.takeF 7 (.inl (by kernel_rfl)) rfl (by kernel_rfl) rfl rfl rfl (m' := 767) rfl (Pur.extract rfl rfl) ?_
                refine JM.takeF 8 (.inl (by kernel_rfl)) rfl (by kernel_rfl) rfl rfl rfl (m' := 1023) rfl (Pur.extract rfl rfl) ?_
                refine JM.one (i := 10) (by kernel_rfl) ?_
                refine JMi.effN rfl rfl rfl (m' := 2047) rfl (Eff.storeBA (cs' := [_, _]) rfl rfl (by rfl) (by rfl) (by rfl)) ?_
                rintro _ _ ⟨rfl, rfl⟩
                refine ⟨.inl (.inr (by kernel_rfl)), ?_⟩
                refine JM.takeF 11 (.inl (by kernel_rfl)) rfl (by kernel_rfl) rfl rfl rfl (m' := 4095) rfl (Pur.assign rfl) ?_
                refine JM.done rfl ?_
                exact J.weaken (.cons rfl rfl (.cons rfl rfl (.cons rfl rfl (.cons rfl rfl (.cons rfl rfl (.cons rfl rfl (.cons rfl rfl (.cons rfl rfl (.cons rfl rfl .nil))))))))) (by first | exact fun _ h => h | exact SubC.out | (dsimp only; exact SubC.out)) (cuta14 (b13, pa74, pc74, qa74, qc74, hs74) trivial)
          · try simp only [decide_eq_true_eq, decide_eq_false_iff_not, Bool.not_eq_true', Bool.not_eq_false', Bool.and_eq_true, Bool.or_eq_true, Bool.and_eq_false_iff, Bool.or_eq_false_iff, Option.isNone_some, Option.isSome_some, Option.isNone_none, Option.isSome_none, Int.not_lt, Int.not_le, beq_iff_eq, beq_eq_false_iff_ne, bne_iff_ne, ne_eq, Bool.not_not, Decidable.not_not] at h67
            have hin : x ∈ (ordN rs xss yss (k)) := by simpa using h67
            have hsame : (ordN rs xss yss (k + 1)) = (ordN rs xss yss (k)) := hstep1 hin
            refine J.condF rfl rfl ?_
            refine J.skip rfl ?_
            refine J.inBlock ?_
            refine J.region rfl ?_
            refine JO.pur rfl rfl rfl (Pur.move rfl) ?_
            refine JO.pur rfl rfl rfl (Pur.add rfl rfl (wr64 (by omega))) ?_
            refine JO.pur rfl rfl rfl (Pur.assign rfl) ?_
            refine JO.nil ?_
            exact J.weaken (.cons rfl (by show Value.slice a56 _ c56 = Value.slice a56 (k + 1) c56; rw [htl]; rfl) (.cons rfl (congrArg (Value.int .i64) (by first | rfl | (dsimp only; omega))) (.cons rfl rfl (.cons rfl rfl (.cons rfl rfl (.cons rfl rfl (.cons rfl rfl .nil))))))) (fun h s => by dsimp only; rw [htk, hsame]; exact SubC.out h s) (ihk (k + 1, a56, c56, pa, pc, qa, qc, A, hz) ⟨by dsimp only; omega, hsp.cast hsame⟩ (by dsimp only; omega))
        · try simp only [decide_eq_true_eq, decide_eq_false_iff_not, Bool.not_eq_true', Bool.not_eq_false', Bool.and_eq_true, Bool.or_eq_true, Bool.and_eq_false_iff, Bool.or_eq_false_iff, Option.isNone_some, Option.isSome_some, Option.isNone_none, Option.isSome_none, Int.not_lt, Int.not_le, beq_iff_eq, beq_eq_false_iff_ne, bne_iff_ne, ne_eq, Bool.not_not, Decidable.not_not] at h43
          have hke : k = yss.length := by omega
          subst hke
          have hke2 : True := trivial
          have hN : (ordN rs xss yss (yss.length)) = (madeL rs ((xss ++ yss).map (atS rs))) := ord_all
          have hgr : gs.reverse.take yss.length = gs.reverse := List.take_of_length_le (by rw [List.length_reverse]; omega)
          rw [hN, hgr]
          rw [hN] at hzl
          have hI3' := hI3
          rw [hN] at hI3'
          haveI := hI3'
          refine J.fact (fun h s => SlH.nil (E := hE) (a := a8) (cap := c8) (xs := gs.reverse) s) fun hnl8 => ?_
          refine J.fact (fun h s => RowsR.len (E := intE) (hs := hs28) (xss := (madeL rs ((xss ++ yss).map (atS rs)))) s) fun hnn8 => ?_
          haveI hrr : RowsR intE L gs.reverse yss.reverse := rowsR_rev hrw2
          refine J.condF rfl rfl ?_
          refine J.exit rfl rfl ?_
          refine J.seq rfl ?_
          refine J.region rfl ?_
          refine JO.pur rfl rfl rfl (Pur.loadA rfl rfl rfl CellsIn.blk) ?_
          refine JO.pur rfl rfl rfl (Pur.move rfl) ?_
          refine JO.eff rfl rfl rfl (Eff.call rfl (s_AddAll (rs := rs) (hs := hs) (gs := gs.reverse) (xss := xss) (yss := yss.reverse) rfl rfl (by rw [List.length_reverse]; exact hgl.symm) hnA (fun e => by obtain ⟨g1, g2⟩ := hnl8 e; exact ⟨by rw [g1]; rfl, g2⟩) (by rw [List.length_reverse]; omega))) ?_
          rintro _ _ ⟨pa83, pc83, qa83, qc83, hs83, rfl, rfl⟩
          rw [hrv, hrn, hv]
          refine JO.fact (fun h s => RowsR.len (E := intE) (hs := hs83) (xss := (madeL rs ((xss ++ yss).map (atS rs)))) s) fun hnn9 => ?_
          refine JO.pur rfl rfl rfl (Pur.move rfl) ?_
          refine JO.pur rfl rfl rfl (Pur.extract rfl rfl) ?_
          refine JO.pur rfl rfl rfl (Pur.extract rfl rfl) ?_
          refine JO.pur rfl rfl rfl (Pur.extract rfl rfl) ?_
          refine JO.eff rfl rfl rfl (Eff.alloc (cs := [_, _]) rfl) ?_
          rintro _ _ ⟨b15, rfl, rfl⟩
          refine JO.effN rfl rfl (Eff.storeBA (cs' := [_, _]) rfl rfl (by rfl) (by rfl) (by rfl)) ?_
          rintro _ _ ⟨rfl, rfl⟩
          refine JO.pur rfl rfl rfl (Pur.assign rfl) ?_
          refine JO.pur rfl rfl rfl (Pur.assign rfl) ?_
          refine JO.nil ?_
          refine J.seq rfl ?_
          refine J.region rfl ?_
          refine JO.pur rfl rfl rfl (Pur.move rfl) ?_
          refine JO.pur rfl rfl rfl (Pur.eqlI rfl rfl) ?_
          refine JO.pur rfl rfl rfl (Pur.move rfl) ?_
          refine JO.setv (u' := .bool true) 89 rfl (congrArg Value.bool (decide_eq_true rfl)) ?_
          refine JO.pur rfl rfl rfl (Pur.move rfl) ?_
          refine JO.pur rfl rfl rfl (Pur.move rfl) ?_
          refine JO.pur rfl rfl rfl (Pur.eqlI rfl rfl) ?_
          refine JO.pur rfl rfl rfl (Pur.pickT rfl rfl) ?_
          refine JO.pur rfl rfl rfl (Pur.move rfl) ?_
          refine JO.setv (u' := .bool true) 94 rfl (congrArg Value.bool (decide_eq_true rfl)) ?_
          refine JO.pur rfl rfl rfl (Pur.loadA rfl rfl rfl CellsIn.blk) ?_
          refine JO.pur rfl rfl rfl (Pur.loadA rfl rfl rfl CellsIn.blk) ?_
          refine JO.effR rfl rfl rfl (Eff.call rfl (s_Same (rs := rs) (ss := rs) (hs := hs28) (gs := hs83) (xss := (madeL rs ((xss ++ yss).map (atS rs)))) (yss := (madeL rs ((xss ++ yss).map (atS rs)))) rfl (rows_len hnn8).symm rfl (rows_len hnn9).symm)) ?_
          refine JO.setv (u' := .bool true) 97 rfl (congrArg Value.bool (decide_eq_true ⟨htt, rfl⟩)) ?_
          refine JO.pur rfl rfl rfl (Pur.pickT rfl rfl) ?_
          refine JO.pur rfl rfl rfl (Pur.move rfl) ?_
          refine JO.pur rfl rfl rfl (Pur.loadA rfl rfl rfl CellsIn.blk) ?_
          refine JO.pur rfl rfl rfl (Pur.loadA rfl rfl rfl CellsIn.blk) ?_
          refine JO.effR rfl rfl rfl (Eff.call rfl (s_Same (rs := rs) (ss := rs) (hs := hs28) (gs := hz) (xss := (madeL rs ((xss ++ yss).map (atS rs)))) (yss := (madeL rs ((xss ++ yss).map (atS rs)))) rfl (rows_len hnn8).symm rfl hzl.symm)) ?_
          refine JO.setv (u' := .bool true) 102 rfl (congrArg Value.bool (decide_eq_true ⟨htt, rfl⟩)) ?_
          refine JO.pur rfl rfl rfl (Pur.pickT rfl rfl) ?_
          refine JO.pur rfl rfl rfl (Pur.move rfl) ?_
          refine JO.pur rfl rfl rfl (Pur.fieldAddr rfl) ?_
          refine JO.pur rfl rfl rfl (Pur.load rfl (CellIn.blk rfl)) ?_
          refine JO.pur rfl rfl rfl (Pur.len rfl) ?_
          refine JO.setv (u' := .int .i64 ((madeL rs ((xss ++ yss).map (atS rs))).length : Int)) 107 rfl rfl ?_
          refine JO.pur rfl rfl rfl (Pur.fieldAddr rfl) ?_
          refine JO.pur rfl rfl rfl (Pur.load rfl (CellIn.blk rfl)) ?_
          refine JO.pur rfl rfl rfl (Pur.len rfl) ?_
          refine JO.pur rfl rfl rfl (Pur.move rfl) ?_
          refine JO.pur rfl rfl rfl (Pur.add rfl rfl (wr64 (by omega))) ?_
          refine JO.pur rfl rfl rfl (Pur.eqlI rfl rfl) ?_
          refine JO.pur rfl rfl rfl (Pur.pickT rfl rfl) ?_
          refine JO.pur rfl rfl rfl (Pur.move rfl) ?_
          refine JO.setv (u' := .bool true) 115 rfl (congrArg Value.bool (decide_eq_true (by omega))) ?_
          refine JO.effR rfl rfl rfl (Eff.call rfl (first_ok)) ?_
          refine JO.pur rfl rfl rfl (Pur.pickT rfl rfl) ?_
          refine JO.pur rfl rfl rfl (Pur.assign rfl) ?_
          refine JO.nil ?_
          refine J.ret rfl rfl ?_
          refine ⟨_, _, ⟨rfl, rfl⟩, rfl, SubC.out⟩

end Go.Proofs.Ytnhippfllgnngaa

/- The text SG2. -/
/-! A range that is given. -/
set_option linter.unusedVariables false
set_option linter.unusedSimpArgs false
namespace Go.Proofs.Ytnhippfllgnngaa
open Go Go.KK Dm Go.ChangeShapes Go.WideShapes Go.ChangeAt Go.RowKit Go.Deep
theorem trod_rgS {H : Type} {enc : TypeId × Value → H} {w : World} {base : Nat} {spare : Nat → Bool} {held : Bool} {fuel : Nat} {cs : List Value} {x : DataW H × List MemPlace} (h : DataW.trod enc Try.prog w base spare held fuel 93 cs = some x) : ∃ g : Rg, rgE.enc g = cs := by
  obtain ⟨ys, hx, hl, hxl, hff⟩ := open_cells Try.underlying93 (hone_of (by kernel_rfl)) (by kernel_rfl) h
  obtain ⟨c0, c1, c2, rfl⟩ := len3 hl
  obtain ⟨y0, y1, y2, rfl⟩ := len3 hxl
  obtain ⟨n0, h0⟩ := hff 0 _ _ _ rfl rfl rfl
  obtain ⟨n1, h1⟩ := hff 1 _ _ _ rfl rfl rfl
  obtain ⟨n2, h2⟩ := hff 2 _ _ _ rfl rfl rfl
  obtain ⟨a, ea, _⟩ := cell_int Try.underlying3 h0
  obtain ⟨b, eb, _⟩ := cell_int Try.underlying3 h1
  obtain ⟨c, ec, _⟩ := cell_int Try.underlying3 h2
  subst ea; subst eb; subst ec
  exact ⟨⟨a, b, c⟩, rfl⟩
end Go.Proofs.Ytnhippfllgnngaa
