/-
  A part of the proof of the claim that this folder bears.
-/
import Derived.Test.YtbmepcipnnlcnaaDoorPAH
/- The text J11. -/
set_option linter.unusedVariables false
set_option linter.unusedSimpArgs false
set_option maxRecDepth 10000
namespace Go.Proofs.YtbmepcipnnlcnaaDoor
open Go Go.KK Sg

theorem lawCalls {L : List Asn} [hT : Tab L] {la aa : Option Addr} {n cap m capa : Nat} {ls : List Sn} {xss : List (List Fm)} {ac : List Fm} {s : Sn} {fs : List Fm} [SlIn sgE L la ls] [hR : RowsR fmE L (ls.map Sn.h) xss] [SlIn fmE L aa ac] [SlIn fmE L s.h.a fs] (hn : n = ls.length) (hm : m = ac.length) (hG : Okls ls xss) (hsn : s.h.n = fs.length) (hbs : fs.length ≤ 9223372036854775807) (hms : s.nm.size ≤ 9223372036854775807) (hs0 : s.h.a = none → s.h.n = 0 ∧ s.h.cap = 0) (hsc : s.h.n ≤ s.h.cap) (hnl : la = none → ls.length = 0 ∧ cap = 0) :
    CallS Tryd.prog 3 [.slice la n cap, .agg #[.string s.nm, .slice s.h.a s.h.n s.h.cap, .string s.rs], .slice aa m capa].toArray L (fun v M => v = .bool true ∧ M = L) := by
  subst hn
  subst hm
  refine CallS.ent ?_
  refine CallS.enter Tryd.func3 rfl rfl rfl rfl rfl ?_
  refine J.seq rfl ?_
  refine J.region rfl ?_
  refine JO.eff rfl rfl rfl (Eff.box (cs := [_, _, _]) rfl rfl) ?_
  rintro _ _ ⟨b4, rfl, rfl⟩
  refine JO.pur rfl rfl rfl (Pur.assign rfl) ?_
  refine JO.nil ?_
  refine J.seq rfl ?_
  refine J.seq rfl ?_
  refine J.region rfl ?_
  refine JO.pur rfl rfl rfl (Pur.move rfl) ?_
  refine JO.pur rfl rfl rfl (Pur.len rfl) ?_
  refine JO.pur rfl rfl rfl (Pur.gtr rfl rfl) ?_
  refine JO.pur rfl rfl rfl (Pur.move rfl) ?_
  refine JO.splitB 22 rfl (fun h22 => ?_) (fun h22 => ?_)
  · try simp only [decide_eq_true_eq, decide_eq_false_iff_not, Bool.not_eq_true', Bool.not_eq_false', Bool.and_eq_true, Bool.or_eq_true, Bool.and_eq_false_iff, Bool.or_eq_false_iff, Option.isNone_some, Option.isSome_some, Option.isNone_none, Option.isSome_none, Int.not_lt, Int.not_le, beq_iff_eq, beq_eq_false_iff_ne, bne_iff_ne, ne_eq, Bool.not_not, Decidable.not_not] at h22
    refine JO.no rfl rfl rfl ?_
    refine JO.no rfl rfl rfl ?_
    refine JO.no rfl rfl rfl ?_
    refine JO.pur rfl rfl rfl (Pur.pickT rfl rfl) ?_
    refine JO.pur rfl rfl rfl (Pur.move rfl) ?_
    refine JO.no rfl rfl rfl ?_
    refine JO.no rfl rfl rfl ?_
    refine JO.no rfl rfl rfl ?_
    refine JO.no rfl rfl rfl ?_
    refine JO.pur rfl rfl rfl (Pur.pickT rfl rfl) ?_
    refine JO.nil ?_
    refine J.condT rfl rfl ?_
    refine J.seq rfl ?_
    refine J.region rfl ?_
    refine JO.effR rfl rfl rfl (Eff.call rfl (lawFirst_ok)) ?_
    refine JO.pur rfl rfl rfl (Pur.assign rfl) ?_
    refine JO.nil ?_
    refine J.ret rfl rfl ?_
    refine ⟨_, _, ⟨rfl, rfl⟩, rfl, SubC.out⟩
  · try simp only [decide_eq_true_eq, decide_eq_false_iff_not, Bool.not_eq_true', Bool.not_eq_false', Bool.and_eq_true, Bool.or_eq_true, Bool.and_eq_false_iff, Bool.or_eq_false_iff, Option.isNone_some, Option.isSome_some, Option.isNone_none, Option.isSome_none, Int.not_lt, Int.not_le, beq_iff_eq, beq_eq_false_iff_ne, bne_iff_ne, ne_eq, Bool.not_not, Decidable.not_not] at h22
    refine JO.pur rfl rfl rfl (Pur.move rfl) ?_
    refine JO.pur rfl rfl rfl (Pur.len rfl) ?_
    refine JO.pur rfl rfl rfl (Pur.gtr rfl rfl) ?_
    refine JO.pur rfl rfl rfl (Pur.pickF rfl rfl) ?_
    refine JO.pur rfl rfl rfl (Pur.move rfl) ?_
    refine JO.splitB 27 rfl (fun h27 => ?_) (fun h27 => ?_)
    · try simp only [decide_eq_true_eq, decide_eq_false_iff_not, Bool.not_eq_true', Bool.not_eq_false', Bool.and_eq_true, Bool.or_eq_true, Bool.and_eq_false_iff, Bool.or_eq_false_iff, Option.isNone_some, Option.isSome_some, Option.isNone_none, Option.isSome_none, Int.not_lt, Int.not_le, beq_iff_eq, beq_eq_false_iff_ne, bne_iff_ne, ne_eq, Bool.not_not, Decidable.not_not] at h27
      refine JO.no rfl rfl rfl ?_
      refine JO.no rfl rfl rfl ?_
      refine JO.no rfl rfl rfl ?_
      refine JO.no rfl rfl rfl ?_
      refine JO.pur rfl rfl rfl (Pur.pickT rfl rfl) ?_
      refine JO.nil ?_
      refine J.condT rfl rfl ?_
      refine J.seq rfl ?_
      refine J.region rfl ?_
      refine JO.effR rfl rfl rfl (Eff.call rfl (lawFirst_ok)) ?_
      refine JO.pur rfl rfl rfl (Pur.assign rfl) ?_
      refine JO.nil ?_
      refine J.ret rfl rfl ?_
      refine ⟨_, _, ⟨rfl, rfl⟩, rfl, SubC.out⟩
    · try simp only [decide_eq_true_eq, decide_eq_false_iff_not, Bool.not_eq_true', Bool.not_eq_false', Bool.and_eq_true, Bool.or_eq_true, Bool.and_eq_false_iff, Bool.or_eq_false_iff, Option.isNone_some, Option.isSome_some, Option.isNone_none, Option.isSome_none, Int.not_lt, Int.not_le, beq_iff_eq, beq_eq_false_iff_ne, bne_iff_ne, ne_eq, Bool.not_not, Decidable.not_not] at h27
      refine JO.pur rfl rfl rfl (Pur.fieldAddr rfl) ?_
      refine JO.pur rfl rfl rfl (Pur.load rfl (CellIn.blk rfl)) ?_
      refine JO.pur rfl rfl rfl (Pur.len rfl) ?_
      refine JO.pur rfl rfl rfl (Pur.gtr rfl rfl) ?_
      refine JO.pur rfl rfl rfl (Pur.pickF rfl rfl) ?_
      refine JO.nil ?_
      refine J.splitB 32 rfl (fun h32 => ?_) (fun h32 => ?_)
      · try simp only [decide_eq_true_eq, decide_eq_false_iff_not, Bool.not_eq_true', Bool.not_eq_false', Bool.and_eq_true, Bool.or_eq_true, Bool.and_eq_false_iff, Bool.or_eq_false_iff, Option.isNone_some, Option.isSome_some, Option.isNone_none, Option.isSome_none, Int.not_lt, Int.not_le, beq_iff_eq, beq_eq_false_iff_ne, bne_iff_ne, ne_eq, Bool.not_not, Decidable.not_not] at h32
        refine J.condT rfl rfl ?_
        refine J.seq rfl ?_
        refine J.region rfl ?_
        refine JO.effR rfl rfl rfl (Eff.call rfl (lawFirst_ok)) ?_
        refine JO.pur rfl rfl rfl (Pur.assign rfl) ?_
        refine JO.nil ?_
        refine J.ret rfl rfl ?_
        refine ⟨_, _, ⟨rfl, rfl⟩, rfl, SubC.out⟩
      · try simp only [decide_eq_true_eq, decide_eq_false_iff_not, Bool.not_eq_true', Bool.not_eq_false', Bool.and_eq_true, Bool.or_eq_true, Bool.and_eq_false_iff, Bool.or_eq_false_iff, Option.isNone_some, Option.isSome_some, Option.isNone_none, Option.isSome_none, Int.not_lt, Int.not_le, beq_iff_eq, beq_eq_false_iff_ne, bne_iff_ne, ne_eq, Bool.not_not, Decidable.not_not] at h32
        have hl30 : ls.length ≤ 30 := by omega
        have ha20 : ac.length ≤ 20 := by omega
        have hz : (ls ++ [s]).zip (xss ++ [fs]) = ls.zip xss ++ [(s, fs)] := List.zip_append hG.1
        have hzl : (ls.zip xss).length = ls.length := hG.zlen
        refine J.condF rfl rfl ?_
        refine J.skip rfl ?_
        refine J.seq rfl ?_
        refine J.region rfl ?_
        refine JO.pur rfl rfl rfl (Pur.move rfl) ?_
        refine JO.pur rfl rfl rfl (Pur.fieldAddr rfl) ?_
        refine JO.pur rfl rfl rfl (Pur.load rfl (CellIn.blk rfl)) ?_
        refine JO.pur rfl rfl rfl (Pur.move rfl) ?_
        refine JO.eff rfl rfl rfl (Eff.call rfl (resolve_ok (ls := ls) (xss := xss) (ac := ac) (nm := s.nm) rfl rfl (by omega) ha20 hG)) ?_
        rintro _ _ ⟨pa, pn, pc, rfl, rfl⟩
        refine JO.pur rfl rfl rfl (Pur.move rfl) ?_
        refine JO.pur rfl rfl rfl (Pur.extract rfl rfl) ?_
        refine JO.pur rfl rfl rfl (Pur.extract rfl rfl) ?_
        refine JO.pur rfl rfl rfl (Pur.extract rfl rfl) ?_
        refine JO.pur rfl rfl rfl (Pur.assign rfl) ?_
        refine JO.pur rfl rfl rfl (Pur.assign rfl) ?_
        refine JO.pur rfl rfl rfl (Pur.assign rfl) ?_
        refine JO.nil ?_
        refine J.seq rfl ?_
        refine J.mask0 (n := 7) [5] rfl Tryd.mixed rfl (by kernel_rfl) ?_
        refine JM.take 1 (fun _ h => h) rfl (by kernel_rfl) rfl rfl rfl (m' := 2) rfl (Pur.move rfl) ?_
        refine JM.take 3 (fun _ h => h) rfl (by kernel_rfl) rfl rfl rfl (m' := 10) rfl (Pur.loadA rfl rfl rfl CellsIn.blk) ?_
        refine JM.many (rs := [0, 4]) (by kernel_rfl) rfl (fun i hi => ?_)
        simp only [List.mem_cons, List.not_mem_nil, or_false] at hi
        rcases hi with rfl | rfl
        · skip
          refine JMi.eff rfl rfl rfl rfl (m' := 11) rfl (Eff.buildSlice sgE ([] : List Sn) rfl rfl rfl rfl rfl rfl rfl) ?_
          rintro _ _ ⟨b43, rfl, -, rfl⟩
          refine ⟨.inr (fun _ h => h.tail), ?_⟩
          refine JM.many (rs := [2, 4]) (by kernel_rfl) rfl (fun i hi => ?_)
          simp only [List.mem_cons, List.not_mem_nil, or_false] at hi
          rcases hi with rfl | rfl
          · skip
            refine JMi.eff rfl rfl rfl rfl (m' := 15) rfl (Eff.append rfl rfl rfl rfl (by first | rfl | omega | (simp; done) | (simp; omega)) (by first | rfl | omega | (simp; done) | (simp; omega)) (by decide) (by simp; omega) (by simp; omega) hnl) ?_
            rintro _ _ ⟨a45, c45, rfl, rfl⟩
            refine ⟨.inr (fun _ h => h.tail), ?_⟩
            refine JM.one (i := 4) (by kernel_rfl) ?_
            refine JMi.eff rfl rfl rfl rfl (m' := 31) rfl (Eff.buildSlice sgE [s] rfl rfl rfl rfl rfl rfl rfl) ?_
            rintro _ _ ⟨b47, rfl, -, rfl⟩
            refine ⟨.inr (fun _ h => h.tail.tail), ?_⟩
            refine JM.one (i := 5) (by kernel_rfl) ?_
            refine JMi.eff rfl rfl rfl rfl (m' := 63) rfl (Eff.append rfl rfl rfl rfl (by first | rfl | omega | (simp; done) | (simp; omega)) (by first | rfl | omega | (simp; done) | (simp; omega)) (by decide) (by simp; omega) (by simp; omega) (fun h => by cases h)) ?_
            rintro _ _ ⟨a48, c48, rfl, rfl⟩
            refine ⟨.inl (by simp), ?_⟩
            refine JM.takeF 6 (.inl (by kernel_rfl)) rfl (by kernel_rfl) rfl rfl rfl (m' := 127) rfl (Pur.assign rfl) ?_
            refine JM.done rfl ?_
            refine J.seq rfl ?_
            refine J.imp (M := sl sgE a48 c48 (ls ++ [s]) :: blk b4 (.cells #[.string s.nm, .slice s.h.a s.h.n s.h.cap, .string s.rs] 25 (0, 0)) :: L) (fun h z => by simp only [List.nil_append] at z; exact SubC.out h z) ?_
            refine J.region rfl ?_
            refine JO.pur rfl rfl rfl (Pur.move rfl) ?_
            refine JO.pur rfl rfl rfl (Pur.fieldAddr rfl) ?_
            refine JO.pur rfl rfl rfl (Pur.load rfl (CellIn.blk rfl)) ?_
            refine JO.pur rfl rfl rfl (Pur.move rfl) ?_
            refine JO.eff rfl rfl rfl (Eff.call rfl (resolve_ok (hR := rowsSnoc (ls := ls) (xss := xss) inferInstance hG.1 inferInstance hsn hs0 hsc) (ls := ls ++ [s]) (xss := xss ++ [fs]) (ac := ac) (nm := s.nm) (by simp) rfl (by simp; omega) ha20 (okls_snoc hG hsn hbs hms))) ?_
            rintro _ _ ⟨pb, qn, qc, rfl, rfl⟩
            rw [hz]
            refine JO.pur rfl rfl rfl (Pur.move rfl) ?_
            refine JO.pur rfl rfl rfl (Pur.extract rfl rfl) ?_
            refine JO.pur rfl rfl rfl (Pur.extract rfl rfl) ?_
            refine JO.pur rfl rfl rfl (Pur.extract rfl rfl) ?_
            refine JO.pur rfl rfl rfl (Pur.assign rfl) ?_
            refine JO.pur rfl rfl rfl (Pur.assign rfl) ?_
            refine JO.pur rfl rfl rfl (Pur.assign rfl) ?_
            refine JO.nil ?_
            refine J.seq rfl ?_
            refine J.seq rfl ?_
            refine J.region rfl ?_
            refine JO.pur rfl rfl rfl (Pur.move rfl) ?_
            refine JO.pur rfl rfl rfl (Pur.eqlI rfl rfl) ?_
            refine JO.pur rfl rfl rfl (Pur.move rfl) ?_
            refine JO.splitB 60 rfl (fun h60 => ?_) (fun h60 => ?_)
            · try simp only [decide_eq_true_eq, decide_eq_false_iff_not, Bool.not_eq_true', Bool.not_eq_false', Bool.and_eq_true, Bool.or_eq_true, Bool.and_eq_false_iff, Bool.or_eq_false_iff, Option.isNone_some, Option.isSome_some, Option.isNone_none, Option.isSome_none, Int.not_lt, Int.not_le, beq_iff_eq, beq_eq_false_iff_ne, bne_iff_ne, ne_eq, Bool.not_not, Decidable.not_not] at h60
              refine JO.no rfl rfl rfl ?_
              refine JO.no rfl rfl rfl ?_
              refine JO.pur rfl rfl rfl (Pur.pickT rfl rfl) ?_
              refine JO.nil ?_
              refine J.condT rfl rfl ?_
              refine J.seq rfl ?_
              refine J.region rfl ?_
              refine JO.pur rfl rfl rfl (Pur.move rfl) ?_
              refine JO.pur rfl rfl rfl (Pur.eqlI rfl rfl) ?_
              refine JO.pur rfl rfl rfl (Pur.move rfl) ?_
              refine JO.setv (u' := .bool true) 66 rfl (congrArg Value.bool (decide_eq_true (top_arg (q := (s, fs)) (by first | exact .inl h60 | exact .inr h63)))) ?_
              refine JO.effR rfl rfl rfl (Eff.call rfl (lawFirst_ok)) ?_
              refine JO.pur rfl rfl rfl (Pur.pickT rfl rfl) ?_
              refine JO.pur rfl rfl rfl (Pur.assign rfl) ?_
              refine JO.nil ?_
              refine J.ret rfl rfl ?_
              refine ⟨_, _, ⟨rfl, rfl⟩, rfl, SubC.out⟩
            · try simp only [decide_eq_true_eq, decide_eq_false_iff_not, Bool.not_eq_true', Bool.not_eq_false', Bool.and_eq_true, Bool.or_eq_true, Bool.and_eq_false_iff, Bool.or_eq_false_iff, Option.isNone_some, Option.isSome_some, Option.isNone_none, Option.isSome_none, Int.not_lt, Int.not_le, beq_iff_eq, beq_eq_false_iff_ne, bne_iff_ne, ne_eq, Bool.not_not, Decidable.not_not] at h60
              refine JO.pur rfl rfl rfl (Pur.move rfl) ?_
              refine JO.pur rfl rfl rfl (Pur.eqlI rfl rfl) ?_
              refine JO.pur rfl rfl rfl (Pur.pickF rfl rfl) ?_
              refine JO.nil ?_
              refine J.splitB 63 rfl (fun h63 => ?_) (fun h63 => ?_)
              · try simp only [decide_eq_true_eq, decide_eq_false_iff_not, Bool.not_eq_true', Bool.not_eq_false', Bool.and_eq_true, Bool.or_eq_true, Bool.and_eq_false_iff, Bool.or_eq_false_iff, Option.isNone_some, Option.isSome_some, Option.isNone_none, Option.isSome_none, Int.not_lt, Int.not_le, beq_iff_eq, beq_eq_false_iff_ne, bne_iff_ne, ne_eq, Bool.not_not, Decidable.not_not] at h63
                refine J.condT rfl rfl ?_
                refine J.seq rfl ?_
                refine J.region rfl ?_
                refine JO.pur rfl rfl rfl (Pur.move rfl) ?_
                refine JO.pur rfl rfl rfl (Pur.eqlI rfl rfl) ?_
                refine JO.pur rfl rfl rfl (Pur.move rfl) ?_
                refine JO.setv (u' := .bool true) 66 rfl (congrArg Value.bool (decide_eq_true (top_arg (q := (s, fs)) (by first | exact .inl h60 | exact .inr h63)))) ?_
                refine JO.effR rfl rfl rfl (Eff.call rfl (lawFirst_ok)) ?_
                refine JO.pur rfl rfl rfl (Pur.pickT rfl rfl) ?_
                refine JO.pur rfl rfl rfl (Pur.assign rfl) ?_
                refine JO.nil ?_
                refine J.ret rfl rfl ?_
                refine ⟨_, _, ⟨rfl, rfl⟩, rfl, SubC.out⟩
              · try simp only [decide_eq_true_eq, decide_eq_false_iff_not, Bool.not_eq_true', Bool.not_eq_false', Bool.and_eq_true, Bool.or_eq_true, Bool.and_eq_false_iff, Bool.or_eq_false_iff, Option.isNone_some, Option.isSome_some, Option.isNone_none, Option.isSome_none, Int.not_lt, Int.not_le, beq_iff_eq, beq_eq_false_iff_ne, bne_iff_ne, ne_eq, Bool.not_not, Decidable.not_not] at h63
                obtain ⟨hok, hval, hact⟩ := top_ok h63
                have hw : okW s fs ac = true := by unfold okW; rw [hact]; rw [show valB s fs = true from hval]; rfl
                refine J.condF rfl rfl ?_
                refine J.skip rfl ?_
                refine J.seq rfl ?_
                refine J.region rfl ?_
                refine JO.pur rfl rfl rfl (Pur.loadA rfl rfl rfl CellsIn.blk) ?_
                refine JO.pur rfl rfl rfl (Pur.move rfl) ?_
                refine JO.eff rfl rfl rfl (Eff.call rfl (ways_ok (s := s) (fs := fs) (ac := ac) hsn rfl hbs hms ha20)) ?_
                rintro _ _ ⟨p72, n72, c72, rfl, rfl⟩
                rw [hw, Bool.true_and]
                refine JO.pur rfl rfl rfl (Pur.move rfl) ?_
                refine JO.pur rfl rfl rfl (Pur.extract rfl rfl) ?_
                refine JO.pur rfl rfl rfl (Pur.extract rfl rfl) ?_
                refine JO.pur rfl rfl rfl (Pur.extract rfl rfl) ?_
                refine JO.pur rfl rfl rfl (Pur.assign rfl) ?_
                refine JO.pur rfl rfl rfl (Pur.assign rfl) ?_
                refine JO.pur rfl rfl rfl (Pur.assign rfl) ?_
                refine JO.nil ?_
                refine J.seq rfl ?_
                refine J.block rfl ?_
                refine J.seq rfl ?_
                refine J.region rfl ?_
                refine JO.pur rfl rfl rfl (Pur.move rfl) ?_
                refine JO.pur rfl rfl rfl (Pur.neqI rfl rfl) ?_
                refine JO.pur rfl rfl rfl (Pur.assign rfl) ?_
                refine JO.nil ?_
                refine J.setv (u' := .bool false) 76 rfl (congrArg Value.bool (decide_eq_false (fun h => h rfl))) ?_
                refine J.condF rfl rfl ?_
                refine J.seq rfl ?_
                refine J.region rfl ?_
                refine JO.pur rfl rfl rfl (Pur.move rfl) ?_
                refine JO.pur rfl rfl rfl (Pur.not rfl) ?_
                refine JO.pur rfl rfl rfl (Pur.assign rfl) ?_
                refine JO.nil ?_
                refine J.splitB 79 rfl (fun h79 => ?_) (fun h79 => ?_)
                · try simp only [decide_eq_true_eq, decide_eq_false_iff_not, Bool.not_eq_true', Bool.not_eq_false', Bool.and_eq_true, Bool.or_eq_true, Bool.and_eq_false_iff, Bool.or_eq_false_iff, Option.isNone_some, Option.isSome_some, Option.isNone_none, Option.isSome_none, Int.not_lt, Int.not_le, beq_iff_eq, beq_eq_false_iff_ne, bne_iff_ne, ne_eq, Bool.not_not, Decidable.not_not] at h79
                  have hun := top_unfit (ps := ls.zip xss) (nm := s.nm) (q := (s, fs)) hval h79
                  refine J.condT rfl rfl ?_
                  refine J.seq rfl ?_
                  refine J.region rfl ?_
                  refine JO.pur rfl rfl rfl (Pur.move rfl) ?_
                  refine JO.pur rfl rfl rfl (Pur.move rfl) ?_
                  refine JO.pur rfl rfl rfl (Pur.eqlI rfl rfl) ?_
                  refine JO.pur rfl rfl rfl (Pur.move rfl) ?_
                  refine JO.setv (u' := .bool true) 85 rfl (congrArg Value.bool (decide_eq_true (by rw [hun]))) ?_
                  refine JO.pur rfl rfl rfl (Pur.move rfl) ?_
                  refine JO.pur rfl rfl rfl (Pur.move rfl) ?_
                  refine JO.pur rfl rfl rfl (Pur.eqlI rfl rfl) ?_
                  refine JO.pur rfl rfl rfl (Pur.pickT rfl rfl) ?_
                  refine JO.pur rfl rfl rfl (Pur.move rfl) ?_
                  refine JO.setv (u' := .bool true) 90 rfl (congrArg Value.bool (decide_eq_true (by rw [hun]))) ?_
                  refine JO.effR rfl rfl rfl (Eff.call rfl (lawFirst_ok)) ?_
                  refine JO.pur rfl rfl rfl (Pur.pickT rfl rfl) ?_
                  refine JO.pur rfl rfl rfl (Pur.assign rfl) ?_
                  refine JO.nil ?_
                  refine J.ret rfl rfl ?_
                  refine ⟨_, _, ⟨rfl, rfl⟩, rfl, SubC.out⟩
                · try simp only [decide_eq_true_eq, decide_eq_false_iff_not, Bool.not_eq_true', Bool.not_eq_false', Bool.and_eq_true, Bool.or_eq_true, Bool.and_eq_false_iff, Bool.or_eq_false_iff, Option.isNone_some, Option.isSome_some, Option.isNone_none, Option.isSome_none, Int.not_lt, Int.not_le, beq_iff_eq, beq_eq_false_iff_ne, bne_iff_ne, ne_eq, Bool.not_not, Decidable.not_not] at h79
                  have hf : fitsB fs ac = true := h79
                  refine J.condF rfl rfl ?_
                  refine J.seq rfl ?_
                  refine J.region rfl ?_
                  refine JO.pur rfl rfl rfl (Pur.move rfl) ?_
                  refine JO.pur rfl rfl rfl (Pur.eqlI rfl rfl) ?_
                  refine JO.pur rfl rfl rfl (Pur.move rfl) ?_
                  refine JO.splitB 96 rfl (fun h96 => ?_) (fun h96 => ?_)
                  · try simp only [decide_eq_true_eq, decide_eq_false_iff_not, Bool.not_eq_true', Bool.not_eq_false', Bool.and_eq_true, Bool.or_eq_true, Bool.and_eq_false_iff, Bool.or_eq_false_iff, Option.isNone_some, Option.isSome_some, Option.isNone_none, Option.isSome_none, Int.not_lt, Int.not_le, beq_iff_eq, beq_eq_false_iff_ne, bne_iff_ne, ne_eq, Bool.not_not, Decidable.not_not] at h96
                    refine JO.pur rfl rfl rfl (Pur.move rfl) ?_
                    refine JO.pur rfl rfl rfl (Pur.move rfl) ?_
                    refine JO.pur rfl rfl rfl (Pur.len rfl) ?_
                    refine JO.pur rfl rfl rfl (Pur.neqI rfl rfl) ?_
                    refine JO.pur rfl rfl rfl (Pur.pickT rfl rfl) ?_
                    refine JO.pur rfl rfl rfl (Pur.assign rfl) ?_
                    refine JO.nil ?_
                    refine J.splitB 93 rfl (fun h93 => ?_) (fun h93 => ?_)
                    · try simp only [decide_eq_true_eq, decide_eq_false_iff_not, Bool.not_eq_true', Bool.not_eq_false', Bool.and_eq_true, Bool.or_eq_true, Bool.and_eq_false_iff, Bool.or_eq_false_iff, Option.isNone_some, Option.isSome_some, Option.isNone_none, Option.isSome_none, Int.not_lt, Int.not_le, beq_iff_eq, beq_eq_false_iff_ne, bne_iff_ne, ne_eq, Bool.not_not, Decidable.not_not] at h93
                      have hold := top_old (ps := ls.zip xss) (q := (s, fs)) hf h96 (fun e => h93 (e.trans (by rw [hzl])))
                      refine J.condT rfl rfl ?_
                      refine J.seq rfl ?_
                      refine J.region rfl ?_
                      refine JO.pur rfl rfl rfl (Pur.move rfl) ?_
                      refine JO.pur rfl rfl rfl (Pur.eqlI rfl rfl) ?_
                      refine JO.pur rfl rfl rfl (Pur.move rfl) ?_
                      refine JO.setv (u' := .bool true) 104 rfl (congrArg Value.bool (decide_eq_true hold.1)) ?_
                      refine JO.pur rfl rfl rfl (Pur.move rfl) ?_
                      refine JO.pur rfl rfl rfl (Pur.move rfl) ?_
                      refine JO.pur rfl rfl rfl (Pur.eqlI rfl rfl) ?_
                      refine JO.pur rfl rfl rfl (Pur.pickT rfl rfl) ?_
                      refine JO.pur rfl rfl rfl (Pur.move rfl) ?_
                      refine JO.setv (u' := .bool true) 109 rfl (congrArg Value.bool (decide_eq_true hold.2)) ?_
                      refine JO.effR rfl rfl rfl (Eff.call rfl (lawFirst_ok)) ?_
                      refine JO.pur rfl rfl rfl (Pur.pickT rfl rfl) ?_
                      refine JO.pur rfl rfl rfl (Pur.assign rfl) ?_
                      refine JO.nil ?_
                      refine J.ret rfl rfl ?_
                      refine ⟨_, _, ⟨rfl, rfl⟩, rfl, SubC.out⟩
                    · try simp only [decide_eq_true_eq, decide_eq_false_iff_not, Bool.not_eq_true', Bool.not_eq_false', Bool.and_eq_true, Bool.or_eq_true, Bool.and_eq_false_iff, Bool.or_eq_false_iff, Option.isNone_some, Option.isSome_some, Option.isNone_none, Option.isSome_none, Int.not_lt, Int.not_le, beq_iff_eq, beq_eq_false_iff_ne, bne_iff_ne, ne_eq, Bool.not_not, Decidable.not_not] at h93
                      refine J.condF rfl rfl ?_
                      refine J.seq rfl ?_
                      refine J.region rfl ?_
                      refine JO.pur rfl rfl rfl (Pur.move rfl) ?_
                      refine JO.pur rfl rfl rfl (Pur.eqlI rfl rfl) ?_
                      refine JO.pur rfl rfl rfl (Pur.move rfl) ?_
                      refine JO.splitB 115 rfl (fun h115 => ?_) (fun h115 => ?_)
                      · try simp only [decide_eq_true_eq, decide_eq_false_iff_not, Bool.not_eq_true', Bool.not_eq_false', Bool.and_eq_true, Bool.or_eq_true, Bool.and_eq_false_iff, Bool.or_eq_false_iff, Option.isNone_some, Option.isSome_some, Option.isNone_none, Option.isSome_none, Int.not_lt, Int.not_le, beq_iff_eq, beq_eq_false_iff_ne, bne_iff_ne, ne_eq, Bool.not_not, Decidable.not_not] at h115
                        refine JO.pur rfl rfl rfl (Pur.move rfl) ?_
                        refine JO.pur rfl rfl rfl (Pur.eqlI rfl rfl) ?_
                        refine JO.pur rfl rfl rfl (Pur.pickT rfl rfl) ?_
                        refine JO.pur rfl rfl rfl (Pur.assign rfl) ?_
                        refine JO.nil ?_
                        refine J.splitB 112 rfl (fun h112 => ?_) (fun h112 => ?_)
                        · try simp only [decide_eq_true_eq, decide_eq_false_iff_not, Bool.not_eq_true', Bool.not_eq_false', Bool.and_eq_true, Bool.or_eq_true, Bool.and_eq_false_iff, Bool.or_eq_false_iff, Option.isNone_some, Option.isSome_some, Option.isNone_none, Option.isSome_none, Int.not_lt, Int.not_le, beq_iff_eq, beq_eq_false_iff_ne, bne_iff_ne, ne_eq, Bool.not_not, Decidable.not_not] at h112
                          have hnew := top_new (ps := ls.zip xss) (q := (s, fs)) hf h115 (by first | (rw [hzl]; exact h93) | exact absurd h115 h96) h112
                          obtain ⟨i, ⟨x, gs⟩, hi1, hi2, hpv, hpf, hbet⟩ := hnew
                          dsimp only at hpv hpf hbet
                          have hil : i < ls.length := by have h1 := (List.getElem?_eq_some_iff.1 hi2).1; omega
                          obtain ⟨x', gs', hX, hF, hZ, hxn, hxb, hxm⟩ := hG.get hil
                          obtain ⟨rfl, rfl⟩ := Prod.mk.inj (Option.some.inj (hZ.symm.trans hi2))
                          haveI := hR.row (hd_get hX) hF
                          have hB : okB s x' fs gs' ac = true := by unfold okB; rw [hact, hpv, show valB s fs = true from hval]; rfl
                          refine J.condT rfl rfl ?_
                          refine J.seq rfl ?_
                          refine J.mask0 (n := 12) [] rfl Tryd.mixed rfl (by kernel_rfl) ?_
                          refine JM.take 0 (fun _ h => h) rfl (by kernel_rfl) rfl rfl rfl (m' := 1) rfl (Pur.loadA rfl rfl rfl CellsIn.blk) ?_
                          refine JM.take 1 (fun _ h => h) rfl (by kernel_rfl) rfl rfl rfl (m' := 3) rfl (Pur.move rfl) ?_
                          refine JM.take 2 (fun _ h => h) rfl (by kernel_rfl) rfl rfl rfl (m' := 7) rfl (Pur.move rfl) ?_
                          refine JM.take 3 (fun _ h => h) rfl (by kernel_rfl) rfl rfl rfl (m' := 15) rfl (Pur.idx rfl rfl rfl (by first | rfl | (simp; done) | omega) hi1 hil) ?_
                          refine JM.take 4 (fun _ h => h) rfl (by kernel_rfl) rfl rfl rfl (m' := 31) rfl (Pur.loadA rfl rfl rfl (CellsIn.el rfl hX)) ?_
                          refine JM.setv (u' := sgV x') 124 rfl rfl ?_
                          refine JM.take 5 (fun _ h => h) rfl (by kernel_rfl) rfl rfl rfl (m' := 63) rfl (Pur.move rfl) ?_
                          refine JM.one (i := 6) (by kernel_rfl) ?_
                          refine JMi.effR (fun _ h => h) rfl rfl rfl rfl (m' := 127) rfl (Eff.call rfl (better7_ok (s := s) (t := x') (fs := fs) (gs := gs') (ac := ac) hsn rfl hbs hms ha20 hxn hxb hxm)) ?_
                          refine JM.take 7 (fun _ h => h) rfl (by kernel_rfl) rfl rfl rfl (m' := 255) rfl (Pur.move rfl) ?_
                          refine JM.take 8 (fun _ h => h) rfl (by kernel_rfl) rfl rfl rfl (m' := 511) rfl (Pur.extract rfl rfl) ?_
                          refine JM.setv (u' := .bool true) 127 rfl (congrArg Value.bool (by rw [hB, hf, hpf, hbet]; rfl)) ?_
                          refine JM.take 9 (fun _ h => h) rfl (by kernel_rfl) rfl rfl rfl (m' := 1023) rfl (Pur.extract rfl rfl) ?_
                          refine JM.setv (u' := .int .i64 0) 128 rfl (congrArg (Value.int .i64) (by rw [hB]; rfl)) ?_
                          refine JM.take 10 (fun _ h => h) rfl (by kernel_rfl) rfl rfl rfl (m' := 2047) rfl (Pur.assign rfl) ?_
                          refine JM.take 11 (fun _ h => h) rfl (by kernel_rfl) rfl rfl rfl (m' := 4095) rfl (Pur.assign rfl) ?_
                          refine JM.done rfl ?_
                          refine J.seq rfl ?_
                          refine J.region rfl ?_
                          refine JO.pur rfl rfl rfl (Pur.move rfl) ?_
                          refine JO.pur rfl rfl rfl (Pur.eqlI rfl rfl) ?_
                          refine JO.pur rfl rfl rfl (Pur.move rfl) ?_
                          refine JO.setv (u' := .bool true) 131 rfl (congrArg Value.bool (decide_eq_true rfl)) ?_
                          refine JO.pur rfl rfl rfl (Pur.move rfl) ?_
                          refine JO.pur rfl rfl rfl (Pur.pickT rfl rfl) ?_
                          refine JO.pur rfl rfl rfl (Pur.move rfl) ?_
                          refine JO.effR rfl rfl rfl (Eff.call rfl (lawFirst_ok)) ?_
                          refine JO.pur rfl rfl rfl (Pur.pickT rfl rfl) ?_
                          refine JO.pur rfl rfl rfl (Pur.assign rfl) ?_
                          refine JO.nil ?_
                          refine J.ret rfl rfl ?_
                          refine ⟨_, _, ⟨rfl, rfl⟩, rfl, SubC.out⟩
                        · try simp only [decide_eq_true_eq, decide_eq_false_iff_not, Bool.not_eq_true', Bool.not_eq_false', Bool.and_eq_true, Bool.or_eq_true, Bool.and_eq_false_iff, Bool.or_eq_false_iff, Option.isNone_some, Option.isSome_some, Option.isNone_none, Option.isSome_none, Int.not_lt, Int.not_le, beq_iff_eq, beq_eq_false_iff_ne, bne_iff_ne, ne_eq, Bool.not_not, Decidable.not_not] at h112
                          refine J.condF rfl rfl ?_
                          refine J.skip rfl ?_
                          refine J.inBlock ?_
                          refine J.seq rfl ?_
                          refine J.region rfl ?_
                          refine JO.pur rfl rfl rfl (Pur.move rfl) ?_
                          refine JO.pur rfl rfl rfl (Pur.eqlI rfl rfl) ?_
                          refine JO.pur rfl rfl rfl (Pur.move rfl) ?_
                          refine JO.splitB 139 rfl (fun h139 => ?_) (fun h139 => ?_)
                          · try simp only [decide_eq_true_eq, decide_eq_false_iff_not, Bool.not_eq_true', Bool.not_eq_false', Bool.and_eq_true, Bool.or_eq_true, Bool.and_eq_false_iff, Bool.or_eq_false_iff, Option.isNone_some, Option.isSome_some, Option.isNone_none, Option.isSome_none, Int.not_lt, Int.not_le, beq_iff_eq, beq_eq_false_iff_ne, bne_iff_ne, ne_eq, Bool.not_not, Decidable.not_not] at h139
                            refine JO.no rfl rfl rfl ?_
                            refine JO.no rfl rfl rfl ?_
                            refine JO.pur rfl rfl rfl (Pur.pickT rfl rfl) ?_
                            refine JO.pur rfl rfl rfl (Pur.move rfl) ?_
                            refine JO.effR rfl rfl rfl (Eff.call rfl (lawFirst_ok)) ?_
                            refine JO.pur rfl rfl rfl (Pur.pickT rfl rfl) ?_
                            refine JO.pur rfl rfl rfl (Pur.assign rfl) ?_
                            refine JO.nil ?_
                            refine J.ret rfl rfl ?_
                            refine ⟨_, _, ⟨rfl, rfl⟩, rfl, SubC.out⟩
                          · try simp only [decide_eq_true_eq, decide_eq_false_iff_not, Bool.not_eq_true', Bool.not_eq_false', Bool.and_eq_true, Bool.or_eq_true, Bool.and_eq_false_iff, Bool.or_eq_false_iff, Option.isNone_some, Option.isSome_some, Option.isNone_none, Option.isSome_none, Int.not_lt, Int.not_le, beq_iff_eq, beq_eq_false_iff_ne, bne_iff_ne, ne_eq, Bool.not_not, Decidable.not_not] at h139
                            refine JO.pur rfl rfl rfl (Pur.move rfl) ?_
                            refine JO.pur rfl rfl rfl (Pur.eqlI rfl rfl) ?_
                            refine JO.pur rfl rfl rfl (Pur.pickF rfl rfl) ?_
                            refine JO.pur rfl rfl rfl (Pur.move rfl) ?_
                            refine JO.setv (u' := .bool true) 143 rfl (congrArg Value.bool (decide_eq_true ((top_end (ps := ls.zip xss) (q := (s, fs)) hf h63).resolve_left h139))) ?_
                            refine JO.effR rfl rfl rfl (Eff.call rfl (lawFirst_ok)) ?_
                            refine JO.pur rfl rfl rfl (Pur.pickT rfl rfl) ?_
                            refine JO.pur rfl rfl rfl (Pur.assign rfl) ?_
                            refine JO.nil ?_
                            refine J.ret rfl rfl ?_
                            refine ⟨_, _, ⟨rfl, rfl⟩, rfl, SubC.out⟩
                      · try simp only [decide_eq_true_eq, decide_eq_false_iff_not, Bool.not_eq_true', Bool.not_eq_false', Bool.and_eq_true, Bool.or_eq_true, Bool.and_eq_false_iff, Bool.or_eq_false_iff, Option.isNone_some, Option.isSome_some, Option.isNone_none, Option.isSome_none, Int.not_lt, Int.not_le, beq_iff_eq, beq_eq_false_iff_ne, bne_iff_ne, ne_eq, Bool.not_not, Decidable.not_not] at h115
                        refine JO.no rfl rfl rfl ?_
                        refine JO.no rfl rfl rfl ?_
                        refine JO.pur rfl rfl rfl (Pur.pickF rfl rfl) ?_
                        refine JO.pur rfl rfl rfl (Pur.assign rfl) ?_
                        refine JO.nil ?_
                        refine J.condF rfl rfl ?_
                        refine J.skip rfl ?_
                        refine J.inBlock ?_
                        refine J.seq rfl ?_
                        refine J.region rfl ?_
                        refine JO.pur rfl rfl rfl (Pur.move rfl) ?_
                        refine JO.pur rfl rfl rfl (Pur.eqlI rfl rfl) ?_
                        refine JO.pur rfl rfl rfl (Pur.move rfl) ?_
                        refine JO.splitB 139 rfl (fun h139 => ?_) (fun h139 => ?_)
                        · try simp only [decide_eq_true_eq, decide_eq_false_iff_not, Bool.not_eq_true', Bool.not_eq_false', Bool.and_eq_true, Bool.or_eq_true, Bool.and_eq_false_iff, Bool.or_eq_false_iff, Option.isNone_some, Option.isSome_some, Option.isNone_none, Option.isSome_none, Int.not_lt, Int.not_le, beq_iff_eq, beq_eq_false_iff_ne, bne_iff_ne, ne_eq, Bool.not_not, Decidable.not_not] at h139
                          refine JO.no rfl rfl rfl ?_
                          refine JO.no rfl rfl rfl ?_
                          refine JO.pur rfl rfl rfl (Pur.pickT rfl rfl) ?_
                          refine JO.pur rfl rfl rfl (Pur.move rfl) ?_
                          refine JO.effR rfl rfl rfl (Eff.call rfl (lawFirst_ok)) ?_
                          refine JO.pur rfl rfl rfl (Pur.pickT rfl rfl) ?_
                          refine JO.pur rfl rfl rfl (Pur.assign rfl) ?_
                          refine JO.nil ?_
                          refine J.ret rfl rfl ?_
                          refine ⟨_, _, ⟨rfl, rfl⟩, rfl, SubC.out⟩
                        · try simp only [decide_eq_true_eq, decide_eq_false_iff_not, Bool.not_eq_true', Bool.not_eq_false', Bool.and_eq_true, Bool.or_eq_true, Bool.and_eq_false_iff, Bool.or_eq_false_iff, Option.isNone_some, Option.isSome_some, Option.isNone_none, Option.isSome_none, Int.not_lt, Int.not_le, beq_iff_eq, beq_eq_false_iff_ne, bne_iff_ne, ne_eq, Bool.not_not, Decidable.not_not] at h139
                          refine JO.pur rfl rfl rfl (Pur.move rfl) ?_
                          refine JO.pur rfl rfl rfl (Pur.eqlI rfl rfl) ?_
                          refine JO.pur rfl rfl rfl (Pur.pickF rfl rfl) ?_
                          refine JO.pur rfl rfl rfl (Pur.move rfl) ?_
                          refine JO.setv (u' := .bool true) 143 rfl (congrArg Value.bool (decide_eq_true ((top_end (ps := ls.zip xss) (q := (s, fs)) hf h63).resolve_left h139))) ?_
                          refine JO.effR rfl rfl rfl (Eff.call rfl (lawFirst_ok)) ?_
                          refine JO.pur rfl rfl rfl (Pur.pickT rfl rfl) ?_
                          refine JO.pur rfl rfl rfl (Pur.assign rfl) ?_
                          refine JO.nil ?_
                          refine J.ret rfl rfl ?_
                          refine ⟨_, _, ⟨rfl, rfl⟩, rfl, SubC.out⟩
                  · try simp only [decide_eq_true_eq, decide_eq_false_iff_not, Bool.not_eq_true', Bool.not_eq_false', Bool.and_eq_true, Bool.or_eq_true, Bool.and_eq_false_iff, Bool.or_eq_false_iff, Option.isNone_some, Option.isSome_some, Option.isNone_none, Option.isSome_none, Int.not_lt, Int.not_le, beq_iff_eq, beq_eq_false_iff_ne, bne_iff_ne, ne_eq, Bool.not_not, Decidable.not_not] at h96
                    refine JO.no rfl rfl rfl ?_
                    refine JO.no rfl rfl rfl ?_
                    refine JO.no rfl rfl rfl ?_
                    refine JO.no rfl rfl rfl ?_
                    refine JO.pur rfl rfl rfl (Pur.pickF rfl rfl) ?_
                    refine JO.pur rfl rfl rfl (Pur.assign rfl) ?_
                    refine JO.nil ?_
                    refine J.condF rfl rfl ?_
                    refine J.seq rfl ?_
                    refine J.region rfl ?_
                    refine JO.pur rfl rfl rfl (Pur.move rfl) ?_
                    refine JO.pur rfl rfl rfl (Pur.eqlI rfl rfl) ?_
                    refine JO.pur rfl rfl rfl (Pur.move rfl) ?_
                    refine JO.splitB 115 rfl (fun h115 => ?_) (fun h115 => ?_)
                    · try simp only [decide_eq_true_eq, decide_eq_false_iff_not, Bool.not_eq_true', Bool.not_eq_false', Bool.and_eq_true, Bool.or_eq_true, Bool.and_eq_false_iff, Bool.or_eq_false_iff, Option.isNone_some, Option.isSome_some, Option.isNone_none, Option.isSome_none, Int.not_lt, Int.not_le, beq_iff_eq, beq_eq_false_iff_ne, bne_iff_ne, ne_eq, Bool.not_not, Decidable.not_not] at h115
                      refine JO.pur rfl rfl rfl (Pur.move rfl) ?_
                      refine JO.pur rfl rfl rfl (Pur.eqlI rfl rfl) ?_
                      refine JO.pur rfl rfl rfl (Pur.pickT rfl rfl) ?_
                      refine JO.pur rfl rfl rfl (Pur.assign rfl) ?_
                      refine JO.nil ?_
                      refine J.splitB 112 rfl (fun h112 => ?_) (fun h112 => ?_)
                      · try simp only [decide_eq_true_eq, decide_eq_false_iff_not, Bool.not_eq_true', Bool.not_eq_false', Bool.and_eq_true, Bool.or_eq_true, Bool.and_eq_false_iff, Bool.or_eq_false_iff, Option.isNone_some, Option.isSome_some, Option.isNone_none, Option.isSome_none, Int.not_lt, Int.not_le, beq_iff_eq, beq_eq_false_iff_ne, bne_iff_ne, ne_eq, Bool.not_not, Decidable.not_not] at h112
                        have hnew := top_new (ps := ls.zip xss) (q := (s, fs)) hf h115 (by first | (rw [hzl]; exact h93) | exact absurd h115 h96) h112
                        obtain ⟨i, ⟨x, gs⟩, hi1, hi2, hpv, hpf, hbet⟩ := hnew
                        dsimp only at hpv hpf hbet
                        have hil : i < ls.length := by have h1 := (List.getElem?_eq_some_iff.1 hi2).1; omega
                        obtain ⟨x', gs', hX, hF, hZ, hxn, hxb, hxm⟩ := hG.get hil
                        obtain ⟨rfl, rfl⟩ := Prod.mk.inj (Option.some.inj (hZ.symm.trans hi2))
                        haveI := hR.row (hd_get hX) hF
                        have hB : okB s x' fs gs' ac = true := by unfold okB; rw [hact, hpv, show valB s fs = true from hval]; rfl
                        refine J.condT rfl rfl ?_
                        refine J.seq rfl ?_
                        refine J.mask0 (n := 12) [] rfl Tryd.mixed rfl (by kernel_rfl) ?_
                        refine JM.take 0 (fun _ h => h) rfl (by kernel_rfl) rfl rfl rfl (m' := 1) rfl (Pur.loadA rfl rfl rfl CellsIn.blk) ?_
                        refine JM.take 1 (fun _ h => h) rfl (by kernel_rfl) rfl rfl rfl (m' := 3) rfl (Pur.move rfl) ?_
                        refine JM.take 2 (fun _ h => h) rfl (by kernel_rfl) rfl rfl rfl (m' := 7) rfl (Pur.move rfl) ?_
                        refine JM.take 3 (fun _ h => h) rfl (by kernel_rfl) rfl rfl rfl (m' := 15) rfl (Pur.idx rfl rfl rfl (by first | rfl | (simp; done) | omega) hi1 hil) ?_
                        refine JM.take 4 (fun _ h => h) rfl (by kernel_rfl) rfl rfl rfl (m' := 31) rfl (Pur.loadA rfl rfl rfl (CellsIn.el rfl hX)) ?_
                        refine JM.setv (u' := sgV x') 124 rfl rfl ?_
                        refine JM.take 5 (fun _ h => h) rfl (by kernel_rfl) rfl rfl rfl (m' := 63) rfl (Pur.move rfl) ?_
                        refine JM.one (i := 6) (by kernel_rfl) ?_
                        refine JMi.effR (fun _ h => h) rfl rfl rfl rfl (m' := 127) rfl (Eff.call rfl (better7_ok (s := s) (t := x') (fs := fs) (gs := gs') (ac := ac) hsn rfl hbs hms ha20 hxn hxb hxm)) ?_
                        refine JM.take 7 (fun _ h => h) rfl (by kernel_rfl) rfl rfl rfl (m' := 255) rfl (Pur.move rfl) ?_
                        refine JM.take 8 (fun _ h => h) rfl (by kernel_rfl) rfl rfl rfl (m' := 511) rfl (Pur.extract rfl rfl) ?_
                        refine JM.setv (u' := .bool true) 127 rfl (congrArg Value.bool (by rw [hB, hf, hpf, hbet]; rfl)) ?_
                        refine JM.take 9 (fun _ h => h) rfl (by kernel_rfl) rfl rfl rfl (m' := 1023) rfl (Pur.extract rfl rfl) ?_
                        refine JM.setv (u' := .int .i64 0) 128 rfl (congrArg (Value.int .i64) (by rw [hB]; rfl)) ?_
                        refine JM.take 10 (fun _ h => h) rfl (by kernel_rfl) rfl rfl rfl (m' := 2047) rfl (Pur.assign rfl) ?_
                        refine JM.take 11 (fun _ h => h) rfl (by kernel_rfl) rfl rfl rfl (m' := 4095) rfl (Pur.assign rfl) ?_
                        refine JM.done rfl ?_
                        refine J.seq rfl ?_
                        refine J.region rfl ?_
                        refine JO.pur rfl rfl rfl (Pur.move rfl) ?_
                        refine JO.pur rfl rfl rfl (Pur.eqlI rfl rfl) ?_
                        refine JO.pur rfl rfl rfl (Pur.move rfl) ?_
                        refine JO.setv (u' := .bool true) 131 rfl (congrArg Value.bool (decide_eq_true rfl)) ?_
                        refine JO.pur rfl rfl rfl (Pur.move rfl) ?_
                        refine JO.pur rfl rfl rfl (Pur.pickT rfl rfl) ?_
                        refine JO.pur rfl rfl rfl (Pur.move rfl) ?_
                        refine JO.effR rfl rfl rfl (Eff.call rfl (lawFirst_ok)) ?_
                        refine JO.pur rfl rfl rfl (Pur.pickT rfl rfl) ?_
                        refine JO.pur rfl rfl rfl (Pur.assign rfl) ?_
                        refine JO.nil ?_
                        refine J.ret rfl rfl ?_
                        refine ⟨_, _, ⟨rfl, rfl⟩, rfl, SubC.out⟩
                      · try simp only [decide_eq_true_eq, decide_eq_false_iff_not, Bool.not_eq_true', Bool.not_eq_false', Bool.and_eq_true, Bool.or_eq_true, Bool.and_eq_false_iff, Bool.or_eq_false_iff, Option.isNone_some, Option.isSome_some, Option.isNone_none, Option.isSome_none, Int.not_lt, Int.not_le, beq_iff_eq, beq_eq_false_iff_ne, bne_iff_ne, ne_eq, Bool.not_not, Decidable.not_not] at h112
                        refine J.condF rfl rfl ?_
                        refine J.skip rfl ?_
                        refine J.inBlock ?_
                        refine J.seq rfl ?_
                        refine J.region rfl ?_
                        refine JO.pur rfl rfl rfl (Pur.move rfl) ?_
                        refine JO.pur rfl rfl rfl (Pur.eqlI rfl rfl) ?_
                        refine JO.pur rfl rfl rfl (Pur.move rfl) ?_
                        refine JO.splitB 139 rfl (fun h139 => ?_) (fun h139 => ?_)
                        · try simp only [decide_eq_true_eq, decide_eq_false_iff_not, Bool.not_eq_true', Bool.not_eq_false', Bool.and_eq_true, Bool.or_eq_true, Bool.and_eq_false_iff, Bool.or_eq_false_iff, Option.isNone_some, Option.isSome_some, Option.isNone_none, Option.isSome_none, Int.not_lt, Int.not_le, beq_iff_eq, beq_eq_false_iff_ne, bne_iff_ne, ne_eq, Bool.not_not, Decidable.not_not] at h139
                          refine JO.no rfl rfl rfl ?_
                          refine JO.no rfl rfl rfl ?_
                          refine JO.pur rfl rfl rfl (Pur.pickT rfl rfl) ?_
                          refine JO.pur rfl rfl rfl (Pur.move rfl) ?_
                          refine JO.effR rfl rfl rfl (Eff.call rfl (lawFirst_ok)) ?_
                          refine JO.pur rfl rfl rfl (Pur.pickT rfl rfl) ?_
                          refine JO.pur rfl rfl rfl (Pur.assign rfl) ?_
                          refine JO.nil ?_
                          refine J.ret rfl rfl ?_
                          refine ⟨_, _, ⟨rfl, rfl⟩, rfl, SubC.out⟩
                        · try simp only [decide_eq_true_eq, decide_eq_false_iff_not, Bool.not_eq_true', Bool.not_eq_false', Bool.and_eq_true, Bool.or_eq_true, Bool.and_eq_false_iff, Bool.or_eq_false_iff, Option.isNone_some, Option.isSome_some, Option.isNone_none, Option.isSome_none, Int.not_lt, Int.not_le, beq_iff_eq, beq_eq_false_iff_ne, bne_iff_ne, ne_eq, Bool.not_not, Decidable.not_not] at h139
                          refine JO.pur rfl rfl rfl (Pur.move rfl) ?_
                          refine JO.pur rfl rfl rfl (Pur.eqlI rfl rfl) ?_
                          refine JO.pur rfl rfl rfl (Pur.pickF rfl rfl) ?_
                          refine JO.pur rfl rfl rfl (Pur.move rfl) ?_
                          refine JO.setv (u' := .bool true) 143 rfl (congrArg Value.bool (decide_eq_true ((top_end (ps := ls.zip xss) (q := (s, fs)) hf h63).resolve_left h139))) ?_
                          refine JO.effR rfl rfl rfl (Eff.call rfl (lawFirst_ok)) ?_
                          refine JO.pur rfl rfl rfl (Pur.pickT rfl rfl) ?_
                          refine JO.pur rfl rfl rfl (Pur.assign rfl) ?_
                          refine JO.nil ?_
                          refine J.ret rfl rfl ?_
                          refine ⟨_, _, ⟨rfl, rfl⟩, rfl, SubC.out⟩
                    · try simp only [decide_eq_true_eq, decide_eq_false_iff_not, Bool.not_eq_true', Bool.not_eq_false', Bool.and_eq_true, Bool.or_eq_true, Bool.and_eq_false_iff, Bool.or_eq_false_iff, Option.isNone_some, Option.isSome_some, Option.isNone_none, Option.isSome_none, Int.not_lt, Int.not_le, beq_iff_eq, beq_eq_false_iff_ne, bne_iff_ne, ne_eq, Bool.not_not, Decidable.not_not] at h115
                      refine JO.no rfl rfl rfl ?_
                      refine JO.no rfl rfl rfl ?_
                      refine JO.pur rfl rfl rfl (Pur.pickF rfl rfl) ?_
                      refine JO.pur rfl rfl rfl (Pur.assign rfl) ?_
                      refine JO.nil ?_
                      refine J.condF rfl rfl ?_
                      refine J.skip rfl ?_
                      refine J.inBlock ?_
                      refine J.seq rfl ?_
                      refine J.region rfl ?_
                      refine JO.pur rfl rfl rfl (Pur.move rfl) ?_
                      refine JO.pur rfl rfl rfl (Pur.eqlI rfl rfl) ?_
                      refine JO.pur rfl rfl rfl (Pur.move rfl) ?_
                      refine JO.splitB 139 rfl (fun h139 => ?_) (fun h139 => ?_)
                      · try simp only [decide_eq_true_eq, decide_eq_false_iff_not, Bool.not_eq_true', Bool.not_eq_false', Bool.and_eq_true, Bool.or_eq_true, Bool.and_eq_false_iff, Bool.or_eq_false_iff, Option.isNone_some, Option.isSome_some, Option.isNone_none, Option.isSome_none, Int.not_lt, Int.not_le, beq_iff_eq, beq_eq_false_iff_ne, bne_iff_ne, ne_eq, Bool.not_not, Decidable.not_not] at h139
                        refine JO.no rfl rfl rfl ?_
                        refine JO.no rfl rfl rfl ?_
                        refine JO.pur rfl rfl rfl (Pur.pickT rfl rfl) ?_
                        refine JO.pur rfl rfl rfl (Pur.move rfl) ?_
                        refine JO.effR rfl rfl rfl (Eff.call rfl (lawFirst_ok)) ?_
                        refine JO.pur rfl rfl rfl (Pur.pickT rfl rfl) ?_
                        refine JO.pur rfl rfl rfl (Pur.assign rfl) ?_
                        refine JO.nil ?_
                        refine J.ret rfl rfl ?_
                        refine ⟨_, _, ⟨rfl, rfl⟩, rfl, SubC.out⟩
                      · try simp only [decide_eq_true_eq, decide_eq_false_iff_not, Bool.not_eq_true', Bool.not_eq_false', Bool.and_eq_true, Bool.or_eq_true, Bool.and_eq_false_iff, Bool.or_eq_false_iff, Option.isNone_some, Option.isSome_some, Option.isNone_none, Option.isSome_none, Int.not_lt, Int.not_le, beq_iff_eq, beq_eq_false_iff_ne, bne_iff_ne, ne_eq, Bool.not_not, Decidable.not_not] at h139
                        refine JO.pur rfl rfl rfl (Pur.move rfl) ?_
                        refine JO.pur rfl rfl rfl (Pur.eqlI rfl rfl) ?_
                        refine JO.pur rfl rfl rfl (Pur.pickF rfl rfl) ?_
                        refine JO.pur rfl rfl rfl (Pur.move rfl) ?_
                        refine JO.setv (u' := .bool true) 143 rfl (congrArg Value.bool (decide_eq_true ((top_end (ps := ls.zip xss) (q := (s, fs)) hf h63).resolve_left h139))) ?_
                        refine JO.effR rfl rfl rfl (Eff.call rfl (lawFirst_ok)) ?_
                        refine JO.pur rfl rfl rfl (Pur.pickT rfl rfl) ?_
                        refine JO.pur rfl rfl rfl (Pur.assign rfl) ?_
                        refine JO.nil ?_
                        refine J.ret rfl rfl ?_
                        refine ⟨_, _, ⟨rfl, rfl⟩, rfl, SubC.out⟩
          · skip
            refine JMi.eff rfl rfl rfl rfl (m' := 27) rfl (Eff.buildSlice sgE [s] rfl rfl rfl rfl rfl rfl rfl) ?_
            rintro _ _ ⟨b47, rfl, -, rfl⟩
            refine ⟨.inr (fun _ h => h.tail.tail), ?_⟩
            refine JM.one (i := 2) (by kernel_rfl) ?_
            refine JMi.eff rfl rfl rfl rfl (m' := 31) rfl (Eff.append rfl rfl rfl rfl (by first | rfl | omega | (simp; done) | (simp; omega)) (by first | rfl | omega | (simp; done) | (simp; omega)) (by decide) (by simp; omega) (by simp; omega) hnl) ?_
            rintro _ _ ⟨a45, c45, rfl, rfl⟩
            refine ⟨.inr (fun _ h => h.tail.tail), ?_⟩
            refine JM.one (i := 5) (by kernel_rfl) ?_
            refine JMi.eff rfl rfl rfl rfl (m' := 63) rfl (Eff.append rfl rfl rfl rfl (by first | rfl | omega | (simp; done) | (simp; omega)) (by first | rfl | omega | (simp; done) | (simp; omega)) (by decide) (by simp; omega) (by simp; omega) (fun h => by cases h)) ?_
            rintro _ _ ⟨a48, c48, rfl, rfl⟩
            refine ⟨.inl (by simp), ?_⟩
            refine JM.takeF 6 (.inl (by kernel_rfl)) rfl (by kernel_rfl) rfl rfl rfl (m' := 127) rfl (Pur.assign rfl) ?_
            refine JM.done rfl ?_
            refine J.seq rfl ?_
            refine J.imp (M := sl sgE a48 c48 (ls ++ [s]) :: blk b4 (.cells #[.string s.nm, .slice s.h.a s.h.n s.h.cap, .string s.rs] 25 (0, 0)) :: L) (fun h z => by simp only [List.nil_append] at z; exact SubC.out h z) ?_
            refine J.region rfl ?_
            refine JO.pur rfl rfl rfl (Pur.move rfl) ?_
            refine JO.pur rfl rfl rfl (Pur.fieldAddr rfl) ?_
            refine JO.pur rfl rfl rfl (Pur.load rfl (CellIn.blk rfl)) ?_
            refine JO.pur rfl rfl rfl (Pur.move rfl) ?_
            refine JO.eff rfl rfl rfl (Eff.call rfl (resolve_ok (hR := rowsSnoc (ls := ls) (xss := xss) inferInstance hG.1 inferInstance hsn hs0 hsc) (ls := ls ++ [s]) (xss := xss ++ [fs]) (ac := ac) (nm := s.nm) (by simp) rfl (by simp; omega) ha20 (okls_snoc hG hsn hbs hms))) ?_
            rintro _ _ ⟨pb, qn, qc, rfl, rfl⟩
            rw [hz]
            refine JO.pur rfl rfl rfl (Pur.move rfl) ?_
            refine JO.pur rfl rfl rfl (Pur.extract rfl rfl) ?_
            refine JO.pur rfl rfl rfl (Pur.extract rfl rfl) ?_
            refine JO.pur rfl rfl rfl (Pur.extract rfl rfl) ?_
            refine JO.pur rfl rfl rfl (Pur.assign rfl) ?_
            refine JO.pur rfl rfl rfl (Pur.assign rfl) ?_
            refine JO.pur rfl rfl rfl (Pur.assign rfl) ?_
            refine JO.nil ?_
            refine J.seq rfl ?_
            refine J.seq rfl ?_
            refine J.region rfl ?_
            refine JO.pur rfl rfl rfl (Pur.move rfl) ?_
            refine JO.pur rfl rfl rfl (Pur.eqlI rfl rfl) ?_
            refine JO.pur rfl rfl rfl (Pur.move rfl) ?_
            refine JO.splitB 60 rfl (fun h60 => ?_) (fun h60 => ?_)
            · try simp only [decide_eq_true_eq, decide_eq_false_iff_not, Bool.not_eq_true', Bool.not_eq_false', Bool.and_eq_true, Bool.or_eq_true, Bool.and_eq_false_iff, Bool.or_eq_false_iff, Option.isNone_some, Option.isSome_some, Option.isNone_none, Option.isSome_none, Int.not_lt, Int.not_le, beq_iff_eq, beq_eq_false_iff_ne, bne_iff_ne, ne_eq, Bool.not_not, Decidable.not_not] at h60
              refine JO.no rfl rfl rfl ?_
              refine JO.no rfl rfl rfl ?_
              refine JO.pur rfl rfl rfl (Pur.pickT rfl rfl) ?_
              refine JO.nil ?_
              refine J.condT rfl rfl ?_
              refine J.seq rfl ?_
              refine J.region rfl ?_
              refine JO.pur rfl rfl rfl (Pur.move rfl) ?_
              refine JO.pur rfl rfl rfl (Pur.eqlI rfl rfl) ?_
              refine JO.pur rfl rfl rfl (Pur.move rfl) ?_
              refine JO.setv (u' := .bool true) 66 rfl (congrArg Value.bool (decide_eq_true (top_arg (q := (s, fs)) (by first | exact .inl h60 | exact .inr h63)))) ?_
              refine JO.effR rfl rfl rfl (Eff.call rfl (lawFirst_ok)) ?_
              refine JO.pur rfl rfl rfl (Pur.pickT rfl rfl) ?_
              refine JO.pur rfl rfl rfl (Pur.assign rfl) ?_
              refine JO.nil ?_
              refine J.ret rfl rfl ?_
              refine ⟨_, _, ⟨rfl, rfl⟩, rfl, SubC.out⟩
            · try simp only [decide_eq_true_eq, decide_eq_false_iff_not, Bool.not_eq_true', Bool.not_eq_false', Bool.and_eq_true, Bool.or_eq_true, Bool.and_eq_false_iff, Bool.or_eq_false_iff, Option.isNone_some, Option.isSome_some, Option.isNone_none, Option.isSome_none, Int.not_lt, Int.not_le, beq_iff_eq, beq_eq_false_iff_ne, bne_iff_ne, ne_eq, Bool.not_not, Decidable.not_not] at h60
              refine JO.pur rfl rfl rfl (Pur.move rfl) ?_
              refine JO.pur rfl rfl rfl (Pur.eqlI rfl rfl) ?_
              refine JO.pur rfl rfl rfl (Pur.pickF rfl rfl) ?_
              refine JO.nil ?_
              refine J.splitB 63 rfl (fun h63 => ?_) (fun h63 => ?_)
              · try simp only [decide_eq_true_eq, decide_eq_false_iff_not, Bool.not_eq_true', Bool.not_eq_false', Bool.and_eq_true, Bool.or_eq_true, Bool.and_eq_false_iff, Bool.or_eq_false_iff, Option.isNone_some, Option.isSome_some, Option.isNone_none, Option.isSome_none, Int.not_lt, Int.not_le, beq_iff_eq, beq_eq_false_iff_ne, bne_iff_ne, ne_eq, Bool.not_not, Decidable.not_not] at h63
                refine J.condT rfl rfl ?_
                refine J.seq rfl ?_
                refine J.region rfl ?_
                refine JO.pur rfl rfl rfl (Pur.move rfl) ?_
                refine JO.pur rfl rfl rfl (Pur.eqlI rfl rfl) ?_
                refine JO.pur rfl rfl rfl (Pur.move rfl) ?_
                refine JO.setv (u' := .bool true) 66 rfl (congrArg Value.bool (decide_eq_true (top_arg (q := (s, fs)) (by first | exact .inl h60 | exact .inr h63)))) ?_
                refine JO.effR rfl rfl rfl (Eff.call rfl (lawFirst_ok)) ?_
                refine JO.pur rfl rfl rfl (Pur.pickT rfl rfl) ?_
                refine JO.pur rfl rfl rfl (Pur.assign rfl) ?_
                refine JO.nil ?_
                refine J.ret rfl rfl ?_
                refine ⟨_, _, ⟨rfl, rfl⟩, rfl, SubC.out⟩
              · try simp only [decide_eq_true_eq, decide_eq_false_iff_not, Bool.not_eq_true', Bool.not_eq_false', Bool.and_eq_true, Bool.or_eq_true, Bool.and_eq_false_iff, Bool.or_eq_false_iff, Option.isNone_some, Option.isSome_some, Option.isNone_none, Option.isSome_none, Int.not_lt, Int.not_le, beq_iff_eq, beq_eq_false_iff_ne, bne_iff_ne, ne_eq, Bool.not_not, Decidable.not_not] at h63
                obtain ⟨hok, hval, hact⟩ := top_ok h63
                have hw : okW s fs ac = true := by unfold okW; rw [hact]; rw [show valB s fs = true from hval]; rfl
                refine J.condF rfl rfl ?_
                refine J.skip rfl ?_
                refine J.seq rfl ?_
                refine J.region rfl ?_
                refine JO.pur rfl rfl rfl (Pur.loadA rfl rfl rfl CellsIn.blk) ?_
                refine JO.pur rfl rfl rfl (Pur.move rfl) ?_
                refine JO.eff rfl rfl rfl (Eff.call rfl (ways_ok (s := s) (fs := fs) (ac := ac) hsn rfl hbs hms ha20)) ?_
                rintro _ _ ⟨p72, n72, c72, rfl, rfl⟩
                rw [hw, Bool.true_and]
                refine JO.pur rfl rfl rfl (Pur.move rfl) ?_
                refine JO.pur rfl rfl rfl (Pur.extract rfl rfl) ?_
                refine JO.pur rfl rfl rfl (Pur.extract rfl rfl) ?_
                refine JO.pur rfl rfl rfl (Pur.extract rfl rfl) ?_
                refine JO.pur rfl rfl rfl (Pur.assign rfl) ?_
                refine JO.pur rfl rfl rfl (Pur.assign rfl) ?_
                refine JO.pur rfl rfl rfl (Pur.assign rfl) ?_
                refine JO.nil ?_
                refine J.seq rfl ?_
                refine J.block rfl ?_
                refine J.seq rfl ?_
                refine J.region rfl ?_
                refine JO.pur rfl rfl rfl (Pur.move rfl) ?_
                refine JO.pur rfl rfl rfl (Pur.neqI rfl rfl) ?_
                refine JO.pur rfl rfl rfl (Pur.assign rfl) ?_
                refine JO.nil ?_
                refine J.setv (u' := .bool false) 76 rfl (congrArg Value.bool (decide_eq_false (fun h => h rfl))) ?_
                refine J.condF rfl rfl ?_
                refine J.seq rfl ?_
                refine J.region rfl ?_
                refine JO.pur rfl rfl rfl (Pur.move rfl) ?_
                refine JO.pur rfl rfl rfl (Pur.not rfl) ?_
                refine JO.pur rfl rfl rfl (Pur.assign rfl) ?_
                refine JO.nil ?_
                refine J.splitB 79 rfl (fun h79 => ?_) (fun h79 => ?_)
                · try simp only [decide_eq_true_eq, decide_eq_false_iff_not, Bool.not_eq_true', Bool.not_eq_false', Bool.and_eq_true, Bool.or_eq_true, Bool.and_eq_false_iff, Bool.or_eq_false_iff, Option.isNone_some, Option.isSome_some, Option.isNone_none, Option.isSome_none, Int.not_lt, Int.not_le, beq_iff_eq, beq_eq_false_iff_ne, bne_iff_ne, ne_eq, Bool.not_not, Decidable.not_not] at h79
                  have hun := top_unfit (ps := ls.zip xss) (nm := s.nm) (q := (s, fs)) hval h79
                  refine J.condT rfl rfl ?_
                  refine J.seq rfl ?_
                  refine J.region rfl ?_
                  refine JO.pur rfl rfl rfl (Pur.move rfl) ?_
                  refine JO.pur rfl rfl rfl (Pur.move rfl) ?_
                  refine JO.pur rfl rfl rfl (Pur.eqlI rfl rfl) ?_
                  refine JO.pur rfl rfl rfl (Pur.move rfl) ?_
                  refine JO.setv (u' := .bool true) 85 rfl (congrArg Value.bool (decide_eq_true (by rw [hun]))) ?_
                  refine JO.pur rfl rfl rfl (Pur.move rfl) ?_
                  refine JO.pur rfl rfl rfl (Pur.move rfl) ?_
                  refine JO.pur rfl rfl rfl (Pur.eqlI rfl rfl) ?_
                  refine JO.pur rfl rfl rfl (Pur.pickT rfl rfl) ?_
                  refine JO.pur rfl rfl rfl (Pur.move rfl) ?_
                  refine JO.setv (u' := .bool true) 90 rfl (congrArg Value.bool (decide_eq_true (by rw [hun]))) ?_
                  refine JO.effR rfl rfl rfl (Eff.call rfl (lawFirst_ok)) ?_
                  refine JO.pur rfl rfl rfl (Pur.pickT rfl rfl) ?_
                  refine JO.pur rfl rfl rfl (Pur.assign rfl) ?_
                  refine JO.nil ?_
                  refine J.ret rfl rfl ?_
                  refine ⟨_, _, ⟨rfl, rfl⟩, rfl, SubC.out⟩
                · try simp only [decide_eq_true_eq, decide_eq_false_iff_not, Bool.not_eq_true', Bool.not_eq_false', Bool.and_eq_true, Bool.or_eq_true, Bool.and_eq_false_iff, Bool.or_eq_false_iff, Option.isNone_some, Option.isSome_some, Option.isNone_none, Option.isSome_none, Int.not_lt, Int.not_le, beq_iff_eq, beq_eq_false_iff_ne, bne_iff_ne, ne_eq, Bool.not_not, Decidable.not_not] at h79
                  have hf : fitsB fs ac = true := h79
                  refine J.condF rfl rfl ?_
                  refine J.seq rfl ?_
                  refine J.region rfl ?_
                  refine JO.pur rfl rfl rfl (Pur.move rfl) ?_
                  refine JO.pur rfl rfl rfl (Pur.eqlI rfl rfl) ?_
                  refine JO.pur rfl rfl rfl (Pur.move rfl) ?_
                  refine JO.splitB 96 rfl (fun h96 => ?_) (fun h96 => ?_)
                  · try simp only [decide_eq_true_eq, decide_eq_false_iff_not, Bool.not_eq_true', Bool.not_eq_false', Bool.and_eq_true, Bool.or_eq_true, Bool.and_eq_false_iff, Bool.or_eq_false_iff, Option.isNone_some, Option.isSome_some, Option.isNone_none, Option.isSome_none, Int.not_lt, Int.not_le, beq_iff_eq, beq_eq_false_iff_ne, bne_iff_ne, ne_eq, Bool.not_not, Decidable.not_not] at h96
                    refine JO.pur rfl rfl rfl (Pur.move rfl) ?_
                    refine JO.pur rfl rfl rfl (Pur.move rfl) ?_
                    refine JO.pur rfl rfl rfl (Pur.len rfl) ?_
                    refine JO.pur rfl rfl rfl (Pur.neqI rfl rfl) ?_
                    refine JO.pur rfl rfl rfl (Pur.pickT rfl rfl) ?_
                    refine JO.pur rfl rfl rfl (Pur.assign rfl) ?_
                    refine JO.nil ?_
                    refine J.splitB 93 rfl (fun h93 => ?_) (fun h93 => ?_)
                    · try simp only [decide_eq_true_eq, decide_eq_false_iff_not, Bool.not_eq_true', Bool.not_eq_false', Bool.and_eq_true, Bool.or_eq_true, Bool.and_eq_false_iff, Bool.or_eq_false_iff, Option.isNone_some, Option.isSome_some, Option.isNone_none, Option.isSome_none, Int.not_lt, Int.not_le, beq_iff_eq, beq_eq_false_iff_ne, bne_iff_ne, ne_eq, Bool.not_not, Decidable.not_not] at h93
                      have hold := top_old (ps := ls.zip xss) (q := (s, fs)) hf h96 (fun e => h93 (e.trans (by rw [hzl])))
                      refine J.condT rfl rfl ?_
                      refine J.seq rfl ?_
                      refine J.region rfl ?_
                      refine JO.pur rfl rfl rfl (Pur.move rfl) ?_
                      refine JO.pur rfl rfl rfl (Pur.eqlI rfl rfl) ?_
                      refine JO.pur rfl rfl rfl (Pur.move rfl) ?_
                      refine JO.setv (u' := .bool true) 104 rfl (congrArg Value.bool (decide_eq_true hold.1)) ?_
                      refine JO.pur rfl rfl rfl (Pur.move rfl) ?_
                      refine JO.pur rfl rfl rfl (Pur.move rfl) ?_
                      refine JO.pur rfl rfl rfl (Pur.eqlI rfl rfl) ?_
                      refine JO.pur rfl rfl rfl (Pur.pickT rfl rfl) ?_
                      refine JO.pur rfl rfl rfl (Pur.move rfl) ?_
                      refine JO.setv (u' := .bool true) 109 rfl (congrArg Value.bool (decide_eq_true hold.2)) ?_
                      refine JO.effR rfl rfl rfl (Eff.call rfl (lawFirst_ok)) ?_
                      refine JO.pur rfl rfl rfl (Pur.pickT rfl rfl) ?_
                      refine JO.pur rfl rfl rfl (Pur.assign rfl) ?_
                      refine JO.nil ?_
                      refine J.ret rfl rfl ?_
                      refine ⟨_, _, ⟨rfl, rfl⟩, rfl, SubC.out⟩
                    · try simp only [decide_eq_true_eq, decide_eq_false_iff_not, Bool.not_eq_true', Bool.not_eq_false', Bool.and_eq_true, Bool.or_eq_true, Bool.and_eq_false_iff, Bool.or_eq_false_iff, Option.isNone_some, Option.isSome_some, Option.isNone_none, Option.isSome_none, Int.not_lt, Int.not_le, beq_iff_eq, beq_eq_false_iff_ne, bne_iff_ne, ne_eq, Bool.not_not, Decidable.not_not] at h93
                      refine J.condF rfl rfl ?_
                      refine J.seq rfl ?_
                      refine J.region rfl ?_
                      refine JO.pur rfl rfl rfl (Pur.move rfl) ?_
                      refine JO.pur rfl rfl rfl (Pur.eqlI rfl rfl) ?_
                      refine JO.pur rfl rfl rfl (Pur.move rfl) ?_
                      refine JO.splitB 115 rfl (fun h115 => ?_) (fun h115 => ?_)
                      · try simp only [decide_eq_true_eq, decide_eq_false_iff_not, Bool.not_eq_true', Bool.not_eq_false', Bool.and_eq_true, Bool.or_eq_true, Bool.and_eq_false_iff, Bool.or_eq_false_iff, Option.isNone_some, Option.isSome_some, Option.isNone_none, Option.isSome_none, Int.not_lt, Int.not_le, beq_iff_eq, beq_eq_false_iff_ne, bne_iff_ne, ne_eq, Bool.not_not, Decidable.not_not] at h115
                        refine JO.pur rfl rfl rfl (Pur.move rfl) ?_
                        refine JO.pur rfl rfl rfl (Pur.eqlI rfl rfl) ?_
                        refine JO.pur rfl rfl rfl (Pur.pickT rfl rfl) ?_
                        refine JO.pur rfl rfl rfl (Pur.assign rfl) ?_
                        refine JO.nil ?_
                        refine J.splitB 112 rfl (fun h112 => ?_) (fun h112 => ?_)
                        · try simp only [decide_eq_true_eq, decide_eq_false_iff_not, Bool.not_eq_true', Bool.not_eq_false', Bool.and_eq_true, Bool.or_eq_true, Bool.and_eq_false_iff, Bool.or_eq_false_iff, Option.isNone_some, Option.isSome_some, Option.isNone_none, Option.isSome_none, Int.not_lt, Int.not_le, beq_iff_eq, beq_eq_false_iff_ne, bne_iff_ne, ne_eq, Bool.not_not, Decidable.not_not] at h112
                          have hnew := top_new (ps := ls.zip xss) (q := (s, fs)) hf h115 (by first | (rw [hzl]; exact h93) | exact absurd h115 h96) h112
                          obtain ⟨i, ⟨x, gs⟩, hi1, hi2, hpv, hpf, hbet⟩ := hnew
                          dsimp only at hpv hpf hbet
                          have hil : i < ls.length := by have h1 := (List.getElem?_eq_some_iff.1 hi2).1; omega
                          obtain ⟨x', gs', hX, hF, hZ, hxn, hxb, hxm⟩ := hG.get hil
                          obtain ⟨rfl, rfl⟩ := Prod.mk.inj (Option.some.inj (hZ.symm.trans hi2))
                          haveI := hR.row (hd_get hX) hF
                          have hB : okB s x' fs gs' ac = true := by unfold okB; rw [hact, hpv, show valB s fs = true from hval]; rfl
                          refine J.condT rfl rfl ?_
                          refine J.seq rfl ?_
                          refine J.mask0 (n := 12) [] rfl Tryd.mixed rfl (by kernel_rfl) ?_
                          refine JM.take 0 (fun _ h => h) rfl (by kernel_rfl) rfl rfl rfl (m' := 1) rfl (Pur.loadA rfl rfl rfl CellsIn.blk) ?_
                          refine JM.take 1 (fun _ h => h) rfl (by kernel_rfl) rfl rfl rfl (m' := 3) rfl (Pur.move rfl) ?_
                          refine JM.take 2 (fun _ h => h) rfl (by kernel_rfl) rfl rfl rfl (m' := 7) rfl (Pur.move rfl) ?_
                          refine JM.take 3 (fun _ h => h) rfl (by kernel_rfl) rfl rfl rfl (m' := 15) rfl (Pur.idx rfl rfl rfl (by first | rfl | (simp; done) | omega) hi1 hil) ?_
                          refine JM.take 4 (fun _ h => h) rfl (by kernel_rfl) rfl rfl rfl (m' := 31) rfl (Pur.loadA rfl rfl rfl (CellsIn.el rfl hX)) ?_
                          refine JM.setv (u' := sgV x') 124 rfl rfl ?_
                          refine JM.take 5 (fun _ h => h) rfl (by kernel_rfl) rfl rfl rfl (m' := 63) rfl (Pur.move rfl) ?_
                          refine JM.one (i := 6) (by kernel_rfl) ?_
                          refine JMi.effR (fun _ h => h) rfl rfl rfl rfl (m' := 127) rfl (Eff.call rfl (better7_ok (s := s) (t := x') (fs := fs) (gs := gs') (ac := ac) hsn rfl hbs hms ha20 hxn hxb hxm)) ?_
                          refine JM.take 7 (fun _ h => h) rfl (by kernel_rfl) rfl rfl rfl (m' := 255) rfl (Pur.move rfl) ?_
                          refine JM.take 8 (fun _ h => h) rfl (by kernel_rfl) rfl rfl rfl (m' := 511) rfl (Pur.extract rfl rfl) ?_
                          refine JM.setv (u' := .bool true) 127 rfl (congrArg Value.bool (by rw [hB, hf, hpf, hbet]; rfl)) ?_
                          refine JM.take 9 (fun _ h => h) rfl (by kernel_rfl) rfl rfl rfl (m' := 1023) rfl (Pur.extract rfl rfl) ?_
                          refine JM.setv (u' := .int .i64 0) 128 rfl (congrArg (Value.int .i64) (by rw [hB]; rfl)) ?_
                          refine JM.take 10 (fun _ h => h) rfl (by kernel_rfl) rfl rfl rfl (m' := 2047) rfl (Pur.assign rfl) ?_
                          refine JM.take 11 (fun _ h => h) rfl (by kernel_rfl) rfl rfl rfl (m' := 4095) rfl (Pur.assign rfl) ?_
                          refine JM.done rfl ?_
                          refine J.seq rfl ?_
                          refine J.region rfl ?_
                          refine JO.pur rfl rfl rfl (Pur.move rfl) ?_
                          refine JO.pur rfl rfl rfl (Pur.eqlI rfl rfl) ?_
                          refine JO.pur rfl rfl rfl (Pur.move rfl) ?_
                          refine JO.setv (u' := .bool true) 131 rfl (congrArg Value.bool (decide_eq_true rfl)) ?_
                          refine JO.pur rfl rfl rfl (Pur.move rfl) ?_
                          refine JO.pur rfl rfl rfl (Pur.pickT rfl rfl) ?_
                          refine JO.pur rfl rfl rfl (Pur.move rfl) ?_
                          refine JO.effR rfl rfl rfl (Eff.call rfl (lawFirst_ok)) ?_
                          refine JO.pur rfl rfl rfl (Pur.pickT rfl rfl) ?_
                          refine JO.pur rfl rfl rfl (Pur.assign rfl) ?_
                          refine JO.nil ?_
                          refine J.ret rfl rfl ?_
                          refine ⟨_, _, ⟨rfl, rfl⟩, rfl, SubC.out⟩
                        · try simp only [decide_eq_true_eq, decide_eq_false_iff_not, Bool.not_eq_true', Bool.not_eq_false', Bool.and_eq_true, Bool.or_eq_true, Bool.and_eq_false_iff, Bool.or_eq_false_iff, Option.isNone_some, Option.isSome_some, Option.isNone_none, Option.isSome_none, Int.not_lt, Int.not_le, beq_iff_eq, beq_eq_false_iff_ne, bne_iff_ne, ne_eq, Bool.not_not, Decidable.not_not] at h112
                          refine J.condF rfl rfl ?_
                          refine J.skip rfl ?_
                          refine J.inBlock ?_
                          refine J.seq rfl ?_
                          refine J.region rfl ?_
                          refine JO.pur rfl rfl rfl (Pur.move rfl) ?_
                          refine JO.pur rfl rfl rfl (Pur.eqlI rfl rfl) ?_
                          refine JO.pur rfl rfl rfl (Pur.move rfl) ?_
                          refine JO.splitB 139 rfl (fun h139 => ?_) (fun h139 => ?_)
                          · try simp only [decide_eq_true_eq, decide_eq_false_iff_not, Bool.not_eq_true', Bool.not_eq_false', Bool.and_eq_true, Bool.or_eq_true, Bool.and_eq_false_iff, Bool.or_eq_false_iff, Option.isNone_some, Option.isSome_some, Option.isNone_none, Option.isSome_none, Int.not_lt, Int.not_le, beq_iff_eq, beq_eq_false_iff_ne, bne_iff_ne, ne_eq, Bool.not_not, Decidable.not_not] at h139
                            refine JO.no rfl rfl rfl ?_
                            refine JO.no rfl rfl rfl ?_
                            refine JO.pur rfl rfl rfl (Pur.pickT rfl rfl) ?_
                            refine JO.pur rfl rfl rfl (Pur.move rfl) ?_
                            refine JO.effR rfl rfl rfl (Eff.call rfl (lawFirst_ok)) ?_
                            refine JO.pur rfl rfl rfl (Pur.pickT rfl rfl) ?_
                            refine JO.pur rfl rfl rfl (Pur.assign rfl) ?_
                            refine JO.nil ?_
                            refine J.ret rfl rfl ?_
                            refine ⟨_, _, ⟨rfl, rfl⟩, rfl, SubC.out⟩
                          · try simp only [decide_eq_true_eq, decide_eq_false_iff_not, Bool.not_eq_true', Bool.not_eq_false', Bool.and_eq_true, Bool.or_eq_true, Bool.and_eq_false_iff, Bool.or_eq_false_iff, Option.isNone_some, Option.isSome_some, Option.isNone_none, Option.isSome_none, Int.not_lt, Int.not_le, beq_iff_eq, beq_eq_false_iff_ne, bne_iff_ne, ne_eq, Bool.not_not, Decidable.not_not] at h139
                            refine JO.pur rfl rfl rfl (Pur.move rfl) ?_
                            refine JO.pur rfl rfl rfl (Pur.eqlI rfl rfl) ?_
                            refine JO.pur rfl rfl rfl (Pur.pickF rfl rfl) ?_
                            refine JO.pur rfl rfl rfl (Pur.move rfl) ?_
                            refine JO.setv (u' := .bool true) 143 rfl (congrArg Value.bool (decide_eq_true ((top_end (ps := ls.zip xss) (q := (s, fs)) hf h63).resolve_left h139))) ?_
                            refine JO.effR rfl rfl rfl (Eff.call rfl (lawFirst_ok)) ?_
                            refine JO.pur rfl rfl rfl (Pur.pickT rfl rfl) ?_
                            refine JO.pur rfl rfl rfl (Pur.assign rfl) ?_
                            refine JO.nil ?_
                            refine J.ret rfl rfl ?_
                            refine ⟨_, _, ⟨rfl, rfl⟩, rfl, SubC.out⟩
                      · try simp only [decide_eq_true_eq, decide_eq_false_iff_not, Bool.not_eq_true', Bool.not_eq_false', Bool.and_eq_true, Bool.or_eq_true, Bool.and_eq_false_iff, Bool.or_eq_false_iff, Option.isNone_some, Option.isSome_some, Option.isNone_none, Option.isSome_none, Int.not_lt, Int.not_le, beq_iff_eq, beq_eq_false_iff_ne, bne_iff_ne, ne_eq, Bool.not_not, Decidable.not_not] at h115
                        refine JO.no rfl rfl rfl ?_
                        refine JO.no rfl rfl rfl ?_
                        refine JO.pur rfl rfl rfl (Pur.pickF rfl rfl) ?_
                        refine JO.pur rfl rfl rfl (Pur.assign rfl) ?_
                        refine JO.nil ?_
                        refine J.condF rfl rfl ?_
                        refine J.skip rfl ?_
                        refine J.inBlock ?_
                        refine J.seq rfl ?_
                        refine J.region rfl ?_
                        refine JO.pur rfl rfl rfl (Pur.move rfl) ?_
                        refine JO.pur rfl rfl rfl (Pur.eqlI rfl rfl) ?_
                        refine JO.pur rfl rfl rfl (Pur.move rfl) ?_
                        refine JO.splitB 139 rfl (fun h139 => ?_) (fun h139 => ?_)
                        · try simp only [decide_eq_true_eq, decide_eq_false_iff_not, Bool.not_eq_true', Bool.not_eq_false', Bool.and_eq_true, Bool.or_eq_true, Bool.and_eq_false_iff, Bool.or_eq_false_iff, Option.isNone_some, Option.isSome_some, Option.isNone_none, Option.isSome_none, Int.not_lt, Int.not_le, beq_iff_eq, beq_eq_false_iff_ne, bne_iff_ne, ne_eq, Bool.not_not, Decidable.not_not] at h139
                          refine JO.no rfl rfl rfl ?_
                          refine JO.no rfl rfl rfl ?_
                          refine JO.pur rfl rfl rfl (Pur.pickT rfl rfl) ?_
                          refine JO.pur rfl rfl rfl (Pur.move rfl) ?_
                          refine JO.effR rfl rfl rfl (Eff.call rfl (lawFirst_ok)) ?_
                          refine JO.pur rfl rfl rfl (Pur.pickT rfl rfl) ?_
                          refine JO.pur rfl rfl rfl (Pur.assign rfl) ?_
                          refine JO.nil ?_
                          refine J.ret rfl rfl ?_
                          refine ⟨_, _, ⟨rfl, rfl⟩, rfl, SubC.out⟩
                        · try simp only [decide_eq_true_eq, decide_eq_false_iff_not, Bool.not_eq_true', Bool.not_eq_false', Bool.and_eq_true, Bool.or_eq_true, Bool.and_eq_false_iff, Bool.or_eq_false_iff, Option.isNone_some, Option.isSome_some, Option.isNone_none, Option.isSome_none, Int.not_lt, Int.not_le, beq_iff_eq, beq_eq_false_iff_ne, bne_iff_ne, ne_eq, Bool.not_not, Decidable.not_not] at h139
                          refine JO.pur rfl rfl rfl (Pur.move rfl) ?_
                          refine JO.pur rfl rfl rfl (Pur.eqlI rfl rfl) ?_
                          refine JO.pur rfl rfl rfl (Pur.pickF rfl rfl) ?_
                          refine JO.pur rfl rfl rfl (Pur.move rfl) ?_
                          refine JO.setv (u' := .bool true) 143 rfl (congrArg Value.bool (decide_eq_true ((top_end (ps := ls.zip xss) (q := (s, fs)) hf h63).resolve_left h139))) ?_
                          refine JO.effR rfl rfl rfl (Eff.call rfl (lawFirst_ok)) ?_
                          refine JO.pur rfl rfl rfl (Pur.pickT rfl rfl) ?_
                          refine JO.pur rfl rfl rfl (Pur.assign rfl) ?_
                          refine JO.nil ?_
                          refine J.ret rfl rfl ?_
                          refine ⟨_, _, ⟨rfl, rfl⟩, rfl, SubC.out⟩
                  · try simp only [decide_eq_true_eq, decide_eq_false_iff_not, Bool.not_eq_true', Bool.not_eq_false', Bool.and_eq_true, Bool.or_eq_true, Bool.and_eq_false_iff, Bool.or_eq_false_iff, Option.isNone_some, Option.isSome_some, Option.isNone_none, Option.isSome_none, Int.not_lt, Int.not_le, beq_iff_eq, beq_eq_false_iff_ne, bne_iff_ne, ne_eq, Bool.not_not, Decidable.not_not] at h96
                    refine JO.no rfl rfl rfl ?_
                    refine JO.no rfl rfl rfl ?_
                    refine JO.no rfl rfl rfl ?_
                    refine JO.no rfl rfl rfl ?_
                    refine JO.pur rfl rfl rfl (Pur.pickF rfl rfl) ?_
                    refine JO.pur rfl rfl rfl (Pur.assign rfl) ?_
                    refine JO.nil ?_
                    refine J.condF rfl rfl ?_
                    refine J.seq rfl ?_
                    refine J.region rfl ?_
                    refine JO.pur rfl rfl rfl (Pur.move rfl) ?_
                    refine JO.pur rfl rfl rfl (Pur.eqlI rfl rfl) ?_
                    refine JO.pur rfl rfl rfl (Pur.move rfl) ?_
                    refine JO.splitB 115 rfl (fun h115 => ?_) (fun h115 => ?_)
                    · try simp only [decide_eq_true_eq, decide_eq_false_iff_not, Bool.not_eq_true', Bool.not_eq_false', Bool.and_eq_true, Bool.or_eq_true, Bool.and_eq_false_iff, Bool.or_eq_false_iff, Option.isNone_some, Option.isSome_some, Option.isNone_none, Option.isSome_none, Int.not_lt, Int.not_le, beq_iff_eq, beq_eq_false_iff_ne, bne_iff_ne, ne_eq, Bool.not_not, Decidable.not_not] at h115
                      refine JO.pur rfl rfl rfl (Pur.move rfl) ?_
                      refine JO.pur rfl rfl rfl (Pur.eqlI rfl rfl) ?_
                      refine JO.pur rfl rfl rfl (Pur.pickT rfl rfl) ?_
                      refine JO.pur rfl rfl rfl (Pur.assign rfl) ?_
                      refine JO.nil ?_
                      refine J.splitB 112 rfl (fun h112 => ?_) (fun h112 => ?_)
                      · try simp only [decide_eq_true_eq, decide_eq_false_iff_not, Bool.not_eq_true', Bool.not_eq_false', Bool.and_eq_true, Bool.or_eq_true, Bool.and_eq_false_iff, Bool.or_eq_false_iff, Option.isNone_some, Option.isSome_some, Option.isNone_none, Option.isSome_none, Int.not_lt, Int.not_le, beq_iff_eq, beq_eq_false_iff_ne, bne_iff_ne, ne_eq, Bool.not_not, Decidable.not_not] at h112
                        have hnew := top_new (ps := ls.zip xss) (q := (s, fs)) hf h115 (by first | (rw [hzl]; exact h93) | exact absurd h115 h96) h112
                        obtain ⟨i, ⟨x, gs⟩, hi1, hi2, hpv, hpf, hbet⟩ := hnew
                        dsimp only at hpv hpf hbet
                        have hil : i < ls.length := by have h1 := (List.getElem?_eq_some_iff.1 hi2).1; omega
                        obtain ⟨x', gs', hX, hF, hZ, hxn, hxb, hxm⟩ := hG.get hil
                        obtain ⟨rfl, rfl⟩ := Prod.mk.inj (Option.some.inj (hZ.symm.trans hi2))
                        haveI := hR.row (hd_get hX) hF
                        have hB : okB s x' fs gs' ac = true := by unfold okB; rw [hact, hpv, show valB s fs = true from hval]; rfl
                        refine J.condT rfl rfl ?_
                        refine J.seq rfl ?_
                        refine J.mask0 (n := 12) [] rfl Tryd.mixed rfl (by kernel_rfl) ?_
                        refine JM.take 0 (fun _ h => h) rfl (by kernel_rfl) rfl rfl rfl (m' := 1) rfl (Pur.loadA rfl rfl rfl CellsIn.blk) ?_
                        refine JM.take 1 (fun _ h => h) rfl (by kernel_rfl) rfl rfl rfl (m' := 3) rfl (Pur.move rfl) ?_
                        refine JM.take 2 (fun _ h => h) rfl (by kernel_rfl) rfl rfl rfl (m' := 7) rfl (Pur.move rfl) ?_
                        refine JM.take 3 (fun _ h => h) rfl (by kernel_rfl) rfl rfl rfl (m' := 15) rfl (Pur.idx rfl rfl rfl (by first | rfl | (simp; done) | omega) hi1 hil) ?_
                        refine JM.take 4 (fun _ h => h) rfl (by kernel_rfl) rfl rfl rfl (m' := 31) rfl (Pur.loadA rfl rfl rfl (CellsIn.el rfl hX)) ?_
                        refine JM.setv (u' := sgV x') 124 rfl rfl ?_
                        refine JM.take 5 (fun _ h => h) rfl (by kernel_rfl) rfl rfl rfl (m' := 63) rfl (Pur.move rfl) ?_
                        refine JM.one (i := 6) (by kernel_rfl) ?_
                        refine JMi.effR (fun _ h => h) rfl rfl rfl rfl (m' := 127) rfl (Eff.call rfl (better7_ok (s := s) (t := x') (fs := fs) (gs := gs') (ac := ac) hsn rfl hbs hms ha20 hxn hxb hxm)) ?_
                        refine JM.take 7 (fun _ h => h) rfl (by kernel_rfl) rfl rfl rfl (m' := 255) rfl (Pur.move rfl) ?_
                        refine JM.take 8 (fun _ h => h) rfl (by kernel_rfl) rfl rfl rfl (m' := 511) rfl (Pur.extract rfl rfl) ?_
                        refine JM.setv (u' := .bool true) 127 rfl (congrArg Value.bool (by rw [hB, hf, hpf, hbet]; rfl)) ?_
                        refine JM.take 9 (fun _ h => h) rfl (by kernel_rfl) rfl rfl rfl (m' := 1023) rfl (Pur.extract rfl rfl) ?_
                        refine JM.setv (u' := .int .i64 0) 128 rfl (congrArg (Value.int .i64) (by rw [hB]; rfl)) ?_
                        refine JM.take 10 (fun _ h => h) rfl (by kernel_rfl) rfl rfl rfl (m' := 2047) rfl (Pur.assign rfl) ?_
                        refine JM.take 11 (fun _ h => h) rfl (by kernel_rfl) rfl rfl rfl (m' := 4095) rfl (Pur.assign rfl) ?_
                        refine JM.done rfl ?_
                        refine J.seq rfl ?_
                        refine J.region rfl ?_
                        refine JO.pur rfl rfl rfl (Pur.move rfl) ?_
                        refine JO.pur rfl rfl rfl (Pur.eqlI rfl rfl) ?_
                        refine JO.pur rfl rfl rfl (Pur.move rfl) ?_
                        refine JO.setv (u' := .bool true) 131 rfl (congrArg Value.bool (decide_eq_true rfl)) ?_
                        refine JO.pur rfl rfl rfl (Pur.move rfl) ?_
                        refine JO.pur rfl rfl rfl (Pur.pickT rfl rfl) ?_
                        refine JO.pur rfl rfl rfl (Pur.move rfl) ?_
                        refine JO.effR rfl rfl rfl (Eff.call rfl (lawFirst_ok)) ?_
                        refine JO.pur rfl rfl rfl (Pur.pickT rfl rfl) ?_
                        refine JO.pur rfl rfl rfl (Pur.assign rfl) ?_
                        refine JO.nil ?_
                        refine J.ret rfl rfl ?_
                        refine ⟨_, _, ⟨rfl, rfl⟩, rfl, SubC.out⟩
                      · try simp only [decide_eq_true_eq, decide_eq_false_iff_not, Bool.not_eq_true', Bool.not_eq_false', Bool.and_eq_true, Bool.or_eq_true, Bool.and_eq_false_iff, Bool.or_eq_false_iff, Option.isNone_some, Option.isSome_some, Option.isNone_none, Option.isSome_none, Int.not_lt, Int.not_le, beq_iff_eq, beq_eq_false_iff_ne, bne_iff_ne, ne_eq, Bool.not_not, Decidable.not_not] at h112
                        refine J.condF rfl rfl ?_
                        refine J.skip rfl ?_
                        refine J.inBlock ?_
                        refine J.seq rfl ?_
                        refine J.region rfl ?_
                        refine JO.pur rfl rfl rfl (Pur.move rfl) ?_
                        refine JO.pur rfl rfl rfl (Pur.eqlI rfl rfl) ?_
                        refine JO.pur rfl rfl rfl (Pur.move rfl) ?_
                        refine JO.splitB 139 rfl (fun h139 => ?_) (fun h139 => ?_)
                        · try simp only [decide_eq_true_eq, decide_eq_false_iff_not, Bool.not_eq_true', Bool.not_eq_false', Bool.and_eq_true, Bool.or_eq_true, Bool.and_eq_false_iff, Bool.or_eq_false_iff, Option.isNone_some, Option.isSome_some, Option.isNone_none, Option.isSome_none, Int.not_lt, Int.not_le, beq_iff_eq, beq_eq_false_iff_ne, bne_iff_ne, ne_eq, Bool.not_not, Decidable.not_not] at h139
                          refine JO.no rfl rfl rfl ?_
                          refine JO.no rfl rfl rfl ?_
                          refine JO.pur rfl rfl rfl (Pur.pickT rfl rfl) ?_
                          refine JO.pur rfl rfl rfl (Pur.move rfl) ?_
                          refine JO.effR rfl rfl rfl (Eff.call rfl (lawFirst_ok)) ?_
                          refine JO.pur rfl rfl rfl (Pur.pickT rfl rfl) ?_
                          refine JO.pur rfl rfl rfl (Pur.assign rfl) ?_
                          refine JO.nil ?_
                          refine J.ret rfl rfl ?_
                          refine ⟨_, _, ⟨rfl, rfl⟩, rfl, SubC.out⟩
                        · try simp only [decide_eq_true_eq, decide_eq_false_iff_not, Bool.not_eq_true', Bool.not_eq_false', Bool.and_eq_true, Bool.or_eq_true, Bool.and_eq_false_iff, Bool.or_eq_false_iff, Option.isNone_some, Option.isSome_some, Option.isNone_none, Option.isSome_none, Int.not_lt, Int.not_le, beq_iff_eq, beq_eq_false_iff_ne, bne_iff_ne, ne_eq, Bool.not_not, Decidable.not_not] at h139
                          refine JO.pur rfl rfl rfl (Pur.move rfl) ?_
                          refine JO.pur rfl rfl rfl (Pur.eqlI rfl rfl) ?_
                          refine JO.pur rfl rfl rfl (Pur.pickF rfl rfl) ?_
                          refine JO.pur rfl rfl rfl (Pur.move rfl) ?_
                          refine JO.setv (u' := .bool true) 143 rfl (congrArg Value.bool (decide_eq_true ((top_end (ps := ls.zip xss) (q := (s, fs)) hf h63).resolve_left h139))) ?_
                          refine JO.effR rfl rfl rfl (Eff.call rfl (lawFirst_ok)) ?_
                          refine JO.pur rfl rfl rfl (Pur.pickT rfl rfl) ?_
                          refine JO.pur rfl rfl rfl (Pur.assign rfl) ?_
                          refine JO.nil ?_
                          refine J.ret rfl rfl ?_
                          refine ⟨_, _, ⟨rfl, rfl⟩, rfl, SubC.out⟩
                    · try simp only [decide_eq_true_eq, decide_eq_false_iff_not, Bool.not_eq_true', Bool.not_eq_false', Bool.and_eq_true, Bool.or_eq_true, Bool.and_eq_false_iff, Bool.or_eq_false_iff, Option.isNone_some, Option.isSome_some, Option.isNone_none, Option.isSome_none, Int.not_lt, Int.not_le, beq_iff_eq, beq_eq_false_iff_ne, bne_iff_ne, ne_eq, Bool.not_not, Decidable.not_not] at h115
                      refine JO.no rfl rfl rfl ?_
                      refine JO.no rfl rfl rfl ?_
                      refine JO.pur rfl rfl rfl (Pur.pickF rfl rfl) ?_
                      refine JO.pur rfl rfl rfl (Pur.assign rfl) ?_
                      refine JO.nil ?_
                      refine J.condF rfl rfl ?_
                      refine J.skip rfl ?_
                      refine J.inBlock ?_
                      refine J.seq rfl ?_
                      refine J.region rfl ?_
                      refine JO.pur rfl rfl rfl (Pur.move rfl) ?_
                      refine JO.pur rfl rfl rfl (Pur.eqlI rfl rfl) ?_
                      refine JO.pur rfl rfl rfl (Pur.move rfl) ?_
                      refine JO.splitB 139 rfl (fun h139 => ?_) (fun h139 => ?_)
                      · try simp only [decide_eq_true_eq, decide_eq_false_iff_not, Bool.not_eq_true', Bool.not_eq_false', Bool.and_eq_true, Bool.or_eq_true, Bool.and_eq_false_iff, Bool.or_eq_false_iff, Option.isNone_some, Option.isSome_some, Option.isNone_none, Option.isSome_none, Int.not_lt, Int.not_le, beq_iff_eq, beq_eq_false_iff_ne, bne_iff_ne, ne_eq, Bool.not_not, Decidable.not_not] at h139
                        refine JO.no rfl rfl rfl ?_
                        refine JO.no rfl rfl rfl ?_
                        refine JO.pur rfl rfl rfl (Pur.pickT rfl rfl) ?_
                        refine JO.pur rfl rfl rfl (Pur.move rfl) ?_
                        refine JO.effR rfl rfl rfl (Eff.call rfl (lawFirst_ok)) ?_
                        refine JO.pur rfl rfl rfl (Pur.pickT rfl rfl) ?_
                        refine JO.pur rfl rfl rfl (Pur.assign rfl) ?_
                        refine JO.nil ?_
                        refine J.ret rfl rfl ?_
                        refine ⟨_, _, ⟨rfl, rfl⟩, rfl, SubC.out⟩
                      · try simp only [decide_eq_true_eq, decide_eq_false_iff_not, Bool.not_eq_true', Bool.not_eq_false', Bool.and_eq_true, Bool.or_eq_true, Bool.and_eq_false_iff, Bool.or_eq_false_iff, Option.isNone_some, Option.isSome_some, Option.isNone_none, Option.isSome_none, Int.not_lt, Int.not_le, beq_iff_eq, beq_eq_false_iff_ne, bne_iff_ne, ne_eq, Bool.not_not, Decidable.not_not] at h139
                        refine JO.pur rfl rfl rfl (Pur.move rfl) ?_
                        refine JO.pur rfl rfl rfl (Pur.eqlI rfl rfl) ?_
                        refine JO.pur rfl rfl rfl (Pur.pickF rfl rfl) ?_
                        refine JO.pur rfl rfl rfl (Pur.move rfl) ?_
                        refine JO.setv (u' := .bool true) 143 rfl (congrArg Value.bool (decide_eq_true ((top_end (ps := ls.zip xss) (q := (s, fs)) hf h63).resolve_left h139))) ?_
                        refine JO.effR rfl rfl rfl (Eff.call rfl (lawFirst_ok)) ?_
                        refine JO.pur rfl rfl rfl (Pur.pickT rfl rfl) ?_
                        refine JO.pur rfl rfl rfl (Pur.assign rfl) ?_
                        refine JO.nil ?_
                        refine J.ret rfl rfl ?_
                        refine ⟨_, _, ⟨rfl, rfl⟩, rfl, SubC.out⟩
        · skip
          refine JMi.eff rfl rfl rfl rfl (m' := 26) rfl (Eff.buildSlice sgE [s] rfl rfl rfl rfl rfl rfl rfl) ?_
          rintro _ _ ⟨b47, rfl, -, rfl⟩
          refine ⟨.inr (fun _ h => h.tail), ?_⟩
          refine JM.one (i := 0) (by kernel_rfl) ?_
          refine JMi.eff rfl rfl rfl rfl (m' := 27) rfl (Eff.buildSlice sgE ([] : List Sn) rfl rfl rfl rfl rfl rfl rfl) ?_
          rintro _ _ ⟨b43, rfl, -, rfl⟩
          refine ⟨.inr (fun _ h => h.tail.tail), ?_⟩
          refine JM.one (i := 2) (by kernel_rfl) ?_
          refine JMi.eff rfl rfl rfl rfl (m' := 31) rfl (Eff.append rfl rfl rfl rfl (by first | rfl | omega | (simp; done) | (simp; omega)) (by first | rfl | omega | (simp; done) | (simp; omega)) (by decide) (by simp; omega) (by simp; omega) hnl) ?_
          rintro _ _ ⟨a45, c45, rfl, rfl⟩
          refine ⟨.inr (fun _ h => h.tail.tail), ?_⟩
          refine JM.one (i := 5) (by kernel_rfl) ?_
          refine JMi.eff rfl rfl rfl rfl (m' := 63) rfl (Eff.append rfl rfl rfl rfl (by first | rfl | omega | (simp; done) | (simp; omega)) (by first | rfl | omega | (simp; done) | (simp; omega)) (by decide) (by simp; omega) (by simp; omega) (fun h => by cases h)) ?_
          rintro _ _ ⟨a48, c48, rfl, rfl⟩
          refine ⟨.inl (by simp), ?_⟩
          refine JM.takeF 6 (.inl (by kernel_rfl)) rfl (by kernel_rfl) rfl rfl rfl (m' := 127) rfl (Pur.assign rfl) ?_
          refine JM.done rfl ?_
          refine J.seq rfl ?_
          refine J.imp (M := sl sgE a48 c48 (ls ++ [s]) :: blk b4 (.cells #[.string s.nm, .slice s.h.a s.h.n s.h.cap, .string s.rs] 25 (0, 0)) :: L) (fun h z => by simp only [List.nil_append] at z; exact SubC.out h z) ?_
          refine J.region rfl ?_
          refine JO.pur rfl rfl rfl (Pur.move rfl) ?_
          refine JO.pur rfl rfl rfl (Pur.fieldAddr rfl) ?_
          refine JO.pur rfl rfl rfl (Pur.load rfl (CellIn.blk rfl)) ?_
          refine JO.pur rfl rfl rfl (Pur.move rfl) ?_
          refine JO.eff rfl rfl rfl (Eff.call rfl (resolve_ok (hR := rowsSnoc (ls := ls) (xss := xss) inferInstance hG.1 inferInstance hsn hs0 hsc) (ls := ls ++ [s]) (xss := xss ++ [fs]) (ac := ac) (nm := s.nm) (by simp) rfl (by simp; omega) ha20 (okls_snoc hG hsn hbs hms))) ?_
          rintro _ _ ⟨pb, qn, qc, rfl, rfl⟩
          rw [hz]
          refine JO.pur rfl rfl rfl (Pur.move rfl) ?_
          refine JO.pur rfl rfl rfl (Pur.extract rfl rfl) ?_
          refine JO.pur rfl rfl rfl (Pur.extract rfl rfl) ?_
          refine JO.pur rfl rfl rfl (Pur.extract rfl rfl) ?_
          refine JO.pur rfl rfl rfl (Pur.assign rfl) ?_
          refine JO.pur rfl rfl rfl (Pur.assign rfl) ?_
          refine JO.pur rfl rfl rfl (Pur.assign rfl) ?_
          refine JO.nil ?_
          refine J.seq rfl ?_
          refine J.seq rfl ?_
          refine J.region rfl ?_
          refine JO.pur rfl rfl rfl (Pur.move rfl) ?_
          refine JO.pur rfl rfl rfl (Pur.eqlI rfl rfl) ?_
          refine JO.pur rfl rfl rfl (Pur.move rfl) ?_
          refine JO.splitB 60 rfl (fun h60 => ?_) (fun h60 => ?_)
          · try simp only [decide_eq_true_eq, decide_eq_false_iff_not, Bool.not_eq_true', Bool.not_eq_false', Bool.and_eq_true, Bool.or_eq_true, Bool.and_eq_false_iff, Bool.or_eq_false_iff, Option.isNone_some, Option.isSome_some, Option.isNone_none, Option.isSome_none, Int.not_lt, Int.not_le, beq_iff_eq, beq_eq_false_iff_ne, bne_iff_ne, ne_eq, Bool.not_not, Decidable.not_not] at h60
            refine JO.no rfl rfl rfl ?_
            refine JO.no rfl rfl rfl ?_
            refine JO.pur rfl rfl rfl (Pur.pickT rfl rfl) ?_
            refine JO.nil ?_
            refine J.condT rfl rfl ?_
            refine J.seq rfl ?_
            refine J.region rfl ?_
            refine JO.pur rfl rfl rfl (Pur.move rfl) ?_
            refine JO.pur rfl rfl rfl (Pur.eqlI rfl rfl) ?_
            refine JO.pur rfl rfl rfl (Pur.move rfl) ?_
            refine JO.setv (u' := .bool true) 66 rfl (congrArg Value.bool (decide_eq_true (top_arg (q := (s, fs)) (by first | exact .inl h60 | exact .inr h63)))) ?_
            refine JO.effR rfl rfl rfl (Eff.call rfl (lawFirst_ok)) ?_
            refine JO.pur rfl rfl rfl (Pur.pickT rfl rfl) ?_
            refine JO.pur rfl rfl rfl (Pur.assign rfl) ?_
            refine JO.nil ?_
            refine J.ret rfl rfl ?_
            refine ⟨_, _, ⟨rfl, rfl⟩, rfl, SubC.out⟩
          · try simp only [decide_eq_true_eq, decide_eq_false_iff_not, Bool.not_eq_true', Bool.not_eq_false', Bool.and_eq_true, Bool.or_eq_true, Bool.and_eq_false_iff, Bool.or_eq_false_iff, Option.isNone_some, Option.isSome_some, Option.isNone_none, Option.isSome_none, Int.not_lt, Int.not_le, beq_iff_eq, beq_eq_false_iff_ne, bne_iff_ne, ne_eq, Bool.not_not, Decidable.not_not] at h60
            refine JO.pur rfl rfl rfl (Pur.move rfl) ?_
            refine JO.pur rfl rfl rfl (Pur.eqlI rfl rfl) ?_
            refine JO.pur rfl rfl rfl (Pur.pickF rfl rfl) ?_
            refine JO.nil ?_
            refine J.splitB 63 rfl (fun h63 => ?_) (fun h63 => ?_)
            · try simp only [decide_eq_true_eq, decide_eq_false_iff_not, Bool.not_eq_true', Bool.not_eq_false', Bool.and_eq_true, Bool.or_eq_true, Bool.and_eq_false_iff, Bool.or_eq_false_iff, Option.isNone_some, Option.isSome_some, Option.isNone_none, Option.isSome_none, Int.not_lt, Int.not_le, beq_iff_eq, beq_eq_false_iff_ne, bne_iff_ne, ne_eq, Bool.not_not, Decidable.not_not] at h63
              refine J.condT rfl rfl ?_
              refine J.seq rfl ?_
              refine J.region rfl ?_
              refine JO.pur rfl rfl rfl (Pur.move rfl) ?_
              refine JO.pur rfl rfl rfl (Pur.eqlI rfl rfl) ?_
              refine JO.pur rfl rfl rfl (Pur.move rfl) ?_
              refine JO.setv (u' := .bool true) 66 rfl (congrArg Value.bool (decide_eq_true (top_arg (q := (s, fs)) (by first | exact .inl h60 | exact .inr h63)))) ?_
              refine JO.effR rfl rfl rfl (Eff.call rfl (lawFirst_ok)) ?_
              refine JO.pur rfl rfl rfl (Pur.pickT rfl rfl) ?_
              refine JO.pur rfl rfl rfl (Pur.assign rfl) ?_
              refine JO.nil ?_
              refine J.ret rfl rfl ?_
              refine ⟨_, _, ⟨rfl, rfl⟩, rfl, SubC.out⟩
            · try simp only [decide_eq_true_eq, decide_eq_false_iff_not, Bool.not_eq_true', Bool.not_eq_false', Bool.and_eq_true, Bool.or_eq_true, Bool.and_eq_false_iff, Bool.or_eq_false_iff, Option.isNone_some, Option.isSome_some, Option.isNone_none, Option.isSome_none, Int.not_lt, Int.not_le, beq_iff_eq, beq_eq_false_iff_ne, bne_iff_ne, ne_eq, Bool.not_not, Decidable.not_not] at h63
              obtain ⟨hok, hval, hact⟩ := top_ok h63
              have hw : okW s fs ac = true := by unfold okW; rw [hact]; rw [show valB s fs = true from hval]; rfl
              refine J.condF rfl rfl ?_
              refine J.skip rfl ?_
              refine J.seq rfl ?_
              refine J.region rfl ?_
              refine JO.pur rfl rfl rfl (Pur.loadA rfl rfl rfl CellsIn.blk) ?_
              refine JO.pur rfl rfl rfl (Pur.move rfl) ?_
              refine JO.eff rfl rfl rfl (Eff.call rfl (ways_ok (s := s) (fs := fs) (ac := ac) hsn rfl hbs hms ha20)) ?_
              rintro _ _ ⟨p72, n72, c72, rfl, rfl⟩
              rw [hw, Bool.true_and]
              refine JO.pur rfl rfl rfl (Pur.move rfl) ?_
              refine JO.pur rfl rfl rfl (Pur.extract rfl rfl) ?_
              refine JO.pur rfl rfl rfl (Pur.extract rfl rfl) ?_
              refine JO.pur rfl rfl rfl (Pur.extract rfl rfl) ?_
              refine JO.pur rfl rfl rfl (Pur.assign rfl) ?_
              refine JO.pur rfl rfl rfl (Pur.assign rfl) ?_
              refine JO.pur rfl rfl rfl (Pur.assign rfl) ?_
              refine JO.nil ?_
              refine J.seq rfl ?_
              refine J.block rfl ?_
              refine J.seq rfl ?_
              refine J.region rfl ?_
              refine JO.pur rfl rfl rfl (Pur.move rfl) ?_
              refine JO.pur rfl rfl rfl (Pur.neqI rfl rfl) ?_
              refine JO.pur rfl rfl rfl (Pur.assign rfl) ?_
              refine JO.nil ?_
              refine J.setv (u' := .bool false) 76 rfl (congrArg Value.bool (decide_eq_false (fun h => h rfl))) ?_
              refine J.condF rfl rfl ?_
              refine J.seq rfl ?_
              refine J.region rfl ?_
              refine JO.pur rfl rfl rfl (Pur.move rfl) ?_
              refine JO.pur rfl rfl rfl (Pur.not rfl) ?_
              refine JO.pur rfl rfl rfl (Pur.assign rfl) ?_
              refine JO.nil ?_
              refine J.splitB 79 rfl (fun h79 => ?_) (fun h79 => ?_)
              · try simp only [decide_eq_true_eq, decide_eq_false_iff_not, Bool.not_eq_true', Bool.not_eq_false', Bool.and_eq_true, Bool.or_eq_true, Bool.and_eq_false_iff, Bool.or_eq_false_iff, Option.isNone_some, Option.isSome_some, Option.isNone_none, Option.isSome_none, Int.not_lt, Int.not_le, beq_iff_eq, beq_eq_false_iff_ne, bne_iff_ne, ne_eq, Bool.not_not, Decidable.not_not] at h79
                have hun := top_unfit (ps := ls.zip xss) (nm := s.nm) (q := (s, fs)) hval h79
                refine J.condT rfl rfl ?_
                refine J.seq rfl ?_
                refine J.region rfl ?_
                refine JO.pur rfl rfl rfl (Pur.move rfl) ?_
                refine JO.pur rfl rfl rfl (Pur.move rfl) ?_
                refine JO.pur rfl rfl rfl (Pur.eqlI rfl rfl) ?_
                refine JO.pur rfl rfl rfl (Pur.move rfl) ?_
                refine JO.setv (u' := .bool true) 85 rfl (congrArg Value.bool (decide_eq_true (by rw [hun]))) ?_
                refine JO.pur rfl rfl rfl (Pur.move rfl) ?_
                refine JO.pur rfl rfl rfl (Pur.move rfl) ?_
                refine JO.pur rfl rfl rfl (Pur.eqlI rfl rfl) ?_
                refine JO.pur rfl rfl rfl (Pur.pickT rfl rfl) ?_
                refine JO.pur rfl rfl rfl (Pur.move rfl) ?_
                refine JO.setv (u' := .bool true) 90 rfl (congrArg Value.bool (decide_eq_true (by rw [hun]))) ?_
                refine JO.effR rfl rfl rfl (Eff.call rfl (lawFirst_ok)) ?_
                refine JO.pur rfl rfl rfl (Pur.pickT rfl rfl) ?_
                refine JO.pur rfl rfl rfl (Pur.assign rfl) ?_
                refine JO.nil ?_
                refine J.ret rfl rfl ?_
                refine ⟨_, _, ⟨rfl, rfl⟩, rfl, SubC.out⟩
              · try simp only [decide_eq_true_eq, decide_eq_false_iff_not, Bool.not_eq_true', Bool.not_eq_false', Bool.and_eq_true, Bool.or_eq_true, Bool.and_eq_false_iff, Bool.or_eq_false_iff, Option.isNone_some, Option.isSome_some, Option.isNone_none, Option.isSome_none, Int.not_lt, Int.not_le, beq_iff_eq, beq_eq_false_iff_ne, bne_iff_ne, ne_eq, Bool.not_not, Decidable.not_not] at h79
                have hf : fitsB fs ac = true := h79
                refine J.condF rfl rfl ?_
                refine J.seq rfl ?_
                refine J.region rfl ?_
                refine JO.pur rfl rfl rfl (Pur.move rfl) ?_
                refine JO.pur rfl rfl rfl (Pur.eqlI rfl rfl) ?_
                refine JO.pur rfl rfl rfl (Pur.move rfl) ?_
                refine JO.splitB 96 rfl (fun h96 => ?_) (fun h96 => ?_)
                · try simp only [decide_eq_true_eq, decide_eq_false_iff_not, Bool.not_eq_true', Bool.not_eq_false', Bool.and_eq_true, Bool.or_eq_true, Bool.and_eq_false_iff, Bool.or_eq_false_iff, Option.isNone_some, Option.isSome_some, Option.isNone_none, Option.isSome_none, Int.not_lt, Int.not_le, beq_iff_eq, beq_eq_false_iff_ne, bne_iff_ne, ne_eq, Bool.not_not, Decidable.not_not] at h96
                  refine JO.pur rfl rfl rfl (Pur.move rfl) ?_
                  refine JO.pur rfl rfl rfl (Pur.move rfl) ?_
                  refine JO.pur rfl rfl rfl (Pur.len rfl) ?_
                  refine JO.pur rfl rfl rfl (Pur.neqI rfl rfl) ?_
                  refine JO.pur rfl rfl rfl (Pur.pickT rfl rfl) ?_
                  refine JO.pur rfl rfl rfl (Pur.assign rfl) ?_
                  refine JO.nil ?_
                  refine J.splitB 93 rfl (fun h93 => ?_) (fun h93 => ?_)
                  · try simp only [decide_eq_true_eq, decide_eq_false_iff_not, Bool.not_eq_true', Bool.not_eq_false', Bool.and_eq_true, Bool.or_eq_true, Bool.and_eq_false_iff, Bool.or_eq_false_iff, Option.isNone_some, Option.isSome_some, Option.isNone_none, Option.isSome_none, Int.not_lt, Int.not_le, beq_iff_eq, beq_eq_false_iff_ne, bne_iff_ne, ne_eq, Bool.not_not, Decidable.not_not] at h93
                    have hold := top_old (ps := ls.zip xss) (q := (s, fs)) hf h96 (fun e => h93 (e.trans (by rw [hzl])))
                    refine J.condT rfl rfl ?_
                    refine J.seq rfl ?_
                    refine J.region rfl ?_
                    refine JO.pur rfl rfl rfl (Pur.move rfl) ?_
                    refine JO.pur rfl rfl rfl (Pur.eqlI rfl rfl) ?_
                    refine JO.pur rfl rfl rfl (Pur.move rfl) ?_
                    refine JO.setv (u' := .bool true) 104 rfl (congrArg Value.bool (decide_eq_true hold.1)) ?_
                    refine JO.pur rfl rfl rfl (Pur.move rfl) ?_
                    refine JO.pur rfl rfl rfl (Pur.move rfl) ?_
                    refine JO.pur rfl rfl rfl (Pur.eqlI rfl rfl) ?_
                    refine JO.pur rfl rfl rfl (Pur.pickT rfl rfl) ?_
                    refine JO.pur rfl rfl rfl (Pur.move rfl) ?_
                    refine JO.setv (u' := .bool true) 109 rfl (congrArg Value.bool (decide_eq_true hold.2)) ?_
                    refine JO.effR rfl rfl rfl (Eff.call rfl (lawFirst_ok)) ?_
                    refine JO.pur rfl rfl rfl (Pur.pickT rfl rfl) ?_
                    refine JO.pur rfl rfl rfl (Pur.assign rfl) ?_
                    refine JO.nil ?_
                    refine J.ret rfl rfl ?_
                    refine ⟨_, _, ⟨rfl, rfl⟩, rfl, SubC.out⟩
                  · try simp only [decide_eq_true_eq, decide_eq_false_iff_not, Bool.not_eq_true', Bool.not_eq_false', Bool.and_eq_true, Bool.or_eq_true, Bool.and_eq_false_iff, Bool.or_eq_false_iff, Option.isNone_some, Option.isSome_some, Option.isNone_none, Option.isSome_none, Int.not_lt, Int.not_le, beq_iff_eq, beq_eq_false_iff_ne, bne_iff_ne, ne_eq, Bool.not_not, Decidable.not_not] at h93
                    refine J.condF rfl rfl ?_
                    refine J.seq rfl ?_
                    refine J.region rfl ?_
                    refine JO.pur rfl rfl rfl (Pur.move rfl) ?_
                    refine JO.pur rfl rfl rfl (Pur.eqlI rfl rfl) ?_
                    refine JO.pur rfl rfl rfl (Pur.move rfl) ?_
                    refine JO.splitB 115 rfl (fun h115 => ?_) (fun h115 => ?_)
                    · try simp only [decide_eq_true_eq, decide_eq_false_iff_not, Bool.not_eq_true', Bool.not_eq_false', Bool.and_eq_true, Bool.or_eq_true, Bool.and_eq_false_iff, Bool.or_eq_false_iff, Option.isNone_some, Option.isSome_some, Option.isNone_none, Option.isSome_none, Int.not_lt, Int.not_le, beq_iff_eq, beq_eq_false_iff_ne, bne_iff_ne, ne_eq, Bool.not_not, Decidable.not_not] at h115
                      refine JO.pur rfl rfl rfl (Pur.move rfl) ?_
                      refine JO.pur rfl rfl rfl (Pur.eqlI rfl rfl) ?_
                      refine JO.pur rfl rfl rfl (Pur.pickT rfl rfl) ?_
                      refine JO.pur rfl rfl rfl (Pur.assign rfl) ?_
                      refine JO.nil ?_
                      refine J.splitB 112 rfl (fun h112 => ?_) (fun h112 => ?_)
                      · try simp only [decide_eq_true_eq, decide_eq_false_iff_not, Bool.not_eq_true', Bool.not_eq_false', Bool.and_eq_true, Bool.or_eq_true, Bool.and_eq_false_iff, Bool.or_eq_false_iff, Option.isNone_some, Option.isSome_some, Option.isNone_none, Option.isSome_none, Int.not_lt, Int.not_le, beq_iff_eq, beq_eq_false_iff_ne, bne_iff_ne, ne_eq, Bool.not_not, Decidable.not_not] at h112
                        have hnew := top_new (ps := ls.zip xss) (q := (s, fs)) hf h115 (by first | (rw [hzl]; exact h93) | exact absurd h115 h96) h112
                        obtain ⟨i, ⟨x, gs⟩, hi1, hi2, hpv, hpf, hbet⟩ := hnew
                        dsimp only at hpv hpf hbet
                        have hil : i < ls.length := by have h1 := (List.getElem?_eq_some_iff.1 hi2).1; omega
                        obtain ⟨x', gs', hX, hF, hZ, hxn, hxb, hxm⟩ := hG.get hil
                        obtain ⟨rfl, rfl⟩ := Prod.mk.inj (Option.some.inj (hZ.symm.trans hi2))
                        haveI := hR.row (hd_get hX) hF
                        have hB : okB s x' fs gs' ac = true := by unfold okB; rw [hact, hpv, show valB s fs = true from hval]; rfl
                        refine J.condT rfl rfl ?_
                        refine J.seq rfl ?_
                        refine J.mask0 (n := 12) [] rfl Tryd.mixed rfl (by kernel_rfl) ?_
                        refine JM.take 0 (fun _ h => h) rfl (by kernel_rfl) rfl rfl rfl (m' := 1) rfl (Pur.loadA rfl rfl rfl CellsIn.blk) ?_
                        refine JM.take 1 (fun _ h => h) rfl (by kernel_rfl) rfl rfl rfl (m' := 3) rfl (Pur.move rfl) ?_
                        refine JM.take 2 (fun _ h => h) rfl (by kernel_rfl) rfl rfl rfl (m' := 7) rfl (Pur.move rfl) ?_
                        refine JM.take 3 (fun _ h => h) rfl (by kernel_rfl) rfl rfl rfl (m' := 15) rfl (Pur.idx rfl rfl rfl (by first | rfl | (simp; done) | omega) hi1 hil) ?_
                        refine JM.take 4 (fun _ h => h) rfl (by kernel_rfl) rfl rfl rfl (m' := 31) rfl (Pur.loadA rfl rfl rfl (CellsIn.el rfl hX)) ?_
                        refine JM.setv (u' := sgV x') 124 rfl rfl ?_
                        refine JM.take 5 (fun _ h => h) rfl (by kernel_rfl) rfl rfl rfl (m' := 63) rfl (Pur.move rfl) ?_
                        refine JM.one (i := 6) (by kernel_rfl) ?_
                        refine JMi.effR (fun _ h => h) rfl rfl rfl rfl (m' := 127) rfl (Eff.call rfl (better7_ok (s := s) (t := x') (fs := fs) (gs := gs') (ac := ac) hsn rfl hbs hms ha20 hxn hxb hxm)) ?_
                        refine JM.take 7 (fun _ h => h) rfl (by kernel_rfl) rfl rfl rfl (m' := 255) rfl (Pur.move rfl) ?_
                        refine JM.take 8 (fun _ h => h) rfl (by kernel_rfl) rfl rfl rfl (m' := 511) rfl (Pur.extract rfl rfl) ?_
                        refine JM.setv (u' := .bool true) 127 rfl (congrArg Value.bool (by rw [hB, hf, hpf, hbet]; rfl)) ?_
                        refine JM.take 9 (fun _ h => h) rfl (by kernel_rfl) rfl rfl rfl (m' := 1023) rfl (Pur.extract rfl rfl) ?_
                        refine JM.setv (u' := .int .i64 0) 128 rfl (congrArg (Value.int .i64) (by rw [hB]; rfl)) ?_
                        refine JM.take 10 (fun _ h => h) rfl (by kernel_rfl) rfl rfl rfl (m' := 2047) rfl (Pur.assign rfl) ?_
                        refine JM.take 11 (fun _ h => h) rfl (by kernel_rfl) rfl rfl rfl (m' := 4095) rfl (Pur.assign rfl) ?_
                        refine JM.done rfl ?_
                        refine J.seq rfl ?_
                        refine J.region rfl ?_
                        refine JO.pur rfl rfl rfl (Pur.move rfl) ?_
                        refine JO.pur rfl rfl rfl (Pur.eqlI rfl rfl) ?_
                        refine JO.pur rfl rfl rfl (Pur.move rfl) ?_
                        refine JO.setv (u' := .bool true) 131 rfl (congrArg Value.bool (decide_eq_true rfl)) ?_
                        refine JO.pur rfl rfl rfl (Pur.move rfl) ?_
                        refine JO.pur rfl rfl rfl (Pur.pickT rfl rfl) ?_
                        refine JO.pur rfl rfl rfl (Pur.move rfl) ?_
                        refine JO.effR rfl rfl rfl (Eff.call rfl (lawFirst_ok)) ?_
                        refine JO.pur rfl rfl rfl (Pur.pickT rfl rfl) ?_
                        refine JO.pur rfl rfl rfl (Pur.assign rfl) ?_
                        refine JO.nil ?_
                        refine J.ret rfl rfl ?_
                        refine ⟨_, _, ⟨rfl, rfl⟩, rfl, SubC.out⟩
                      · try simp only [decide_eq_true_eq, decide_eq_false_iff_not, Bool.not_eq_true', Bool.not_eq_false', Bool.and_eq_true, Bool.or_eq_true, Bool.and_eq_false_iff, Bool.or_eq_false_iff, Option.isNone_some, Option.isSome_some, Option.isNone_none, Option.isSome_none, Int.not_lt, Int.not_le, beq_iff_eq, beq_eq_false_iff_ne, bne_iff_ne, ne_eq, Bool.not_not, Decidable.not_not] at h112
                        refine J.condF rfl rfl ?_
                        refine J.skip rfl ?_
                        refine J.inBlock ?_
                        refine J.seq rfl ?_
                        refine J.region rfl ?_
                        refine JO.pur rfl rfl rfl (Pur.move rfl) ?_
                        refine JO.pur rfl rfl rfl (Pur.eqlI rfl rfl) ?_
                        refine JO.pur rfl rfl rfl (Pur.move rfl) ?_
                        refine JO.splitB 139 rfl (fun h139 => ?_) (fun h139 => ?_)
                        · try simp only [decide_eq_true_eq, decide_eq_false_iff_not, Bool.not_eq_true', Bool.not_eq_false', Bool.and_eq_true, Bool.or_eq_true, Bool.and_eq_false_iff, Bool.or_eq_false_iff, Option.isNone_some, Option.isSome_some, Option.isNone_none, Option.isSome_none, Int.not_lt, Int.not_le, beq_iff_eq, beq_eq_false_iff_ne, bne_iff_ne, ne_eq, Bool.not_not, Decidable.not_not] at h139
                          refine JO.no rfl rfl rfl ?_
                          refine JO.no rfl rfl rfl ?_
                          refine JO.pur rfl rfl rfl (Pur.pickT rfl rfl) ?_
                          refine JO.pur rfl rfl rfl (Pur.move rfl) ?_
                          refine JO.effR rfl rfl rfl (Eff.call rfl (lawFirst_ok)) ?_
                          refine JO.pur rfl rfl rfl (Pur.pickT rfl rfl) ?_
                          refine JO.pur rfl rfl rfl (Pur.assign rfl) ?_
                          refine JO.nil ?_
                          refine J.ret rfl rfl ?_
                          refine ⟨_, _, ⟨rfl, rfl⟩, rfl, SubC.out⟩
                        · try simp only [decide_eq_true_eq, decide_eq_false_iff_not, Bool.not_eq_true', Bool.not_eq_false', Bool.and_eq_true, Bool.or_eq_true, Bool.and_eq_false_iff, Bool.or_eq_false_iff, Option.isNone_some, Option.isSome_some, Option.isNone_none, Option.isSome_none, Int.not_lt, Int.not_le, beq_iff_eq, beq_eq_false_iff_ne, bne_iff_ne, ne_eq, Bool.not_not, Decidable.not_not] at h139
                          refine JO.pur rfl rfl rfl (Pur.move rfl) ?_
                          refine JO.pur rfl rfl rfl (Pur.eqlI rfl rfl) ?_
                          refine JO.pur rfl rfl rfl (Pur.pickF rfl rfl) ?_
                          refine JO.pur rfl rfl rfl (Pur.move rfl) ?_
                          refine JO.setv (u' := .bool true) 143 rfl (congrArg Value.bool (decide_eq_true ((top_end (ps := ls.zip xss) (q := (s, fs)) hf h63).resolve_left h139))) ?_
                          refine JO.effR rfl rfl rfl (Eff.call rfl (lawFirst_ok)) ?_
                          refine JO.pur rfl rfl rfl (Pur.pickT rfl rfl) ?_
                          refine JO.pur rfl rfl rfl (Pur.assign rfl) ?_
                          refine JO.nil ?_
                          refine J.ret rfl rfl ?_
                          refine ⟨_, _, ⟨rfl, rfl⟩, rfl, SubC.out⟩
                    · try simp only [decide_eq_true_eq, decide_eq_false_iff_not, Bool.not_eq_true', Bool.not_eq_false', Bool.and_eq_true, Bool.or_eq_true, Bool.and_eq_false_iff, Bool.or_eq_false_iff, Option.isNone_some, Option.isSome_some, Option.isNone_none, Option.isSome_none, Int.not_lt, Int.not_le, beq_iff_eq, beq_eq_false_iff_ne, bne_iff_ne, ne_eq, Bool.not_not, Decidable.not_not] at h115
                      refine JO.no rfl rfl rfl ?_
                      refine JO.no rfl rfl rfl ?_
                      refine JO.pur rfl rfl rfl (Pur.pickF rfl rfl) ?_
                      refine JO.pur rfl rfl rfl (Pur.assign rfl) ?_
                      refine JO.nil ?_
                      refine J.condF rfl rfl ?_
                      refine J.skip rfl ?_
                      refine J.inBlock ?_
                      refine J.seq rfl ?_
                      refine J.region rfl ?_
                      refine JO.pur rfl rfl rfl (Pur.move rfl) ?_
                      refine JO.pur rfl rfl rfl (Pur.eqlI rfl rfl) ?_
                      refine JO.pur rfl rfl rfl (Pur.move rfl) ?_
                      refine JO.splitB 139 rfl (fun h139 => ?_) (fun h139 => ?_)
                      · try simp only [decide_eq_true_eq, decide_eq_false_iff_not, Bool.not_eq_true', Bool.not_eq_false', Bool.and_eq_true, Bool.or_eq_true, Bool.and_eq_false_iff, Bool.or_eq_false_iff, Option.isNone_some, Option.isSome_some, Option.isNone_none, Option.isSome_none, Int.not_lt, Int.not_le, beq_iff_eq, beq_eq_false_iff_ne, bne_iff_ne, ne_eq, Bool.not_not, Decidable.not_not] at h139
                        refine JO.no rfl rfl rfl ?_
                        refine JO.no rfl rfl rfl ?_
                        refine JO.pur rfl rfl rfl (Pur.pickT rfl rfl) ?_
                        refine JO.pur rfl rfl rfl (Pur.move rfl) ?_
                        refine JO.effR rfl rfl rfl (Eff.call rfl (lawFirst_ok)) ?_
                        refine JO.pur rfl rfl rfl (Pur.pickT rfl rfl) ?_
                        refine JO.pur rfl rfl rfl (Pur.assign rfl) ?_
                        refine JO.nil ?_
                        refine J.ret rfl rfl ?_
                        refine ⟨_, _, ⟨rfl, rfl⟩, rfl, SubC.out⟩
                      · try simp only [decide_eq_true_eq, decide_eq_false_iff_not, Bool.not_eq_true', Bool.not_eq_false', Bool.and_eq_true, Bool.or_eq_true, Bool.and_eq_false_iff, Bool.or_eq_false_iff, Option.isNone_some, Option.isSome_some, Option.isNone_none, Option.isSome_none, Int.not_lt, Int.not_le, beq_iff_eq, beq_eq_false_iff_ne, bne_iff_ne, ne_eq, Bool.not_not, Decidable.not_not] at h139
                        refine JO.pur rfl rfl rfl (Pur.move rfl) ?_
                        refine JO.pur rfl rfl rfl (Pur.eqlI rfl rfl) ?_
                        refine JO.pur rfl rfl rfl (Pur.pickF rfl rfl) ?_
                        refine JO.pur rfl rfl rfl (Pur.move rfl) ?_
                        refine JO.setv (u' := .bool true) 143 rfl (congrArg Value.bool (decide_eq_true ((top_end (ps := ls.zip xss) (q := (s, fs)) hf h63).resolve_left h139))) ?_
                        refine JO.effR rfl rfl rfl (Eff.call rfl (lawFirst_ok)) ?_
                        refine JO.pur rfl rfl rfl (Pur.pickT rfl rfl) ?_
                        refine JO.pur rfl rfl rfl (Pur.assign rfl) ?_
                        refine JO.nil ?_
                        refine J.ret rfl rfl ?_
                        refine ⟨_, _, ⟨rfl, rfl⟩, rfl, SubC.out⟩
                · try simp only [decide_eq_true_eq, decide_eq_false_iff_not, Bool.not_eq_true', Bool.not_eq_false', Bool.and_eq_true, Bool.or_eq_true, Bool.and_eq_false_iff, Bool.or_eq_false_iff, Option.isNone_some, Option.isSome_some, Option.isNone_none, Option.isSome_none, Int.not_lt, Int.not_le, beq_iff_eq, beq_eq_false_iff_ne, bne_iff_ne, ne_eq, Bool.not_not, Decidable.not_not] at h96
                  refine JO.no rfl rfl rfl ?_
                  refine JO.no rfl rfl rfl ?_
                  refine JO.no rfl rfl rfl ?_
                  refine JO.no rfl rfl rfl ?_
                  refine JO.pur rfl rfl rfl (Pur.pickF rfl rfl) ?_
                  refine JO.pur rfl rfl rfl (Pur.assign rfl) ?_
                  refine JO.nil ?_
                  refine J.condF rfl rfl ?_
                  refine J.seq rfl ?_
                  refine J.region rfl ?_
                  refine JO.pur rfl rfl rfl (Pur.move rfl) ?_
                  refine JO.pur rfl rfl rfl (Pur.eqlI rfl rfl) ?_
                  refine JO.pur rfl rfl rfl (Pur.move rfl) ?_
                  refine JO.splitB 115 rfl (fun h115 => ?_) (fun h115 => ?_)
                  · try simp only [decide_eq_true_eq, decide_eq_false_iff_not, Bool.not_eq_true', Bool.not_eq_false', Bool.and_eq_true, Bool.or_eq_true, Bool.and_eq_false_iff, Bool.or_eq_false_iff, Option.isNone_some, Option.isSome_some, Option.isNone_none, Option.isSome_none, Int.not_lt, Int.not_le, beq_iff_eq, beq_eq_false_iff_ne, bne_iff_ne, ne_eq, Bool.not_not, Decidable.not_not] at h115
                    refine JO.pur rfl rfl rfl (Pur.move rfl) ?_
                    refine JO.pur rfl rfl rfl (Pur.eqlI rfl rfl) ?_
                    refine JO.pur rfl rfl rfl (Pur.pickT rfl rfl) ?_
                    refine JO.pur rfl rfl rfl (Pur.assign rfl) ?_
                    refine JO.nil ?_
                    refine J.splitB 112 rfl (fun h112 => ?_) (fun h112 => ?_)
                    · try simp only [decide_eq_true_eq, decide_eq_false_iff_not, Bool.not_eq_true', Bool.not_eq_false', Bool.and_eq_true, Bool.or_eq_true, Bool.and_eq_false_iff, Bool.or_eq_false_iff, Option.isNone_some, Option.isSome_some, Option.isNone_none, Option.isSome_none, Int.not_lt, Int.not_le, beq_iff_eq, beq_eq_false_iff_ne, bne_iff_ne, ne_eq, Bool.not_not, Decidable.not_not] at h112
                      have hnew := top_new (ps := ls.zip xss) (q := (s, fs)) hf h115 (by first | (rw [hzl]; exact h93) | exact absurd h115 h96) h112
                      obtain ⟨i, ⟨x, gs⟩, hi1, hi2, hpv, hpf, hbet⟩ := hnew
                      dsimp only at hpv hpf hbet
                      have hil : i < ls.length := by have h1 := (List.getElem?_eq_some_iff.1 hi2).1; omega
                      obtain ⟨x', gs', hX, hF, hZ, hxn, hxb, hxm⟩ := hG.get hil
                      obtain ⟨rfl, rfl⟩ := Prod.mk.inj (Option.some.inj (hZ.symm.trans hi2))
                      haveI := hR.row (hd_get hX) hF
                      have hB : okB s x' fs gs' ac = true := by unfold okB; rw [hact, hpv, show valB s fs = true from hval]; rfl
                      refine J.condT rfl rfl ?_
                      refine J.seq rfl ?_
                      refine J.mask0 (n := 12) [] rfl Tryd.mixed rfl (by kernel_rfl) ?_
                      refine JM.take 0 (fun _ h => h) rfl (by kernel_rfl) rfl rfl rfl (m' := 1) rfl (Pur.loadA rfl rfl rfl CellsIn.blk) ?_
                      refine JM.take 1 (fun _ h => h) rfl (by kernel_rfl) rfl rfl rfl (m' := 3) rfl (Pur.move rfl) ?_
                      refine JM.take 2 (fun _ h => h) rfl (by kernel_rfl) rfl rfl rfl (m' := 7) rfl (Pur.move rfl) ?_
                      refine JM.take 3 (fun _ h => h) rfl (by kernel_rfl) rfl rfl rfl (m' := 15) rfl (Pur.idx rfl rfl rfl (by first | rfl | (simp; done) | omega) hi1 hil) ?_
                      refine JM.take 4 (fun _ h => h) rfl (by kernel_rfl) rfl rfl rfl (m' := 31) rfl (Pur.loadA rfl rfl rfl (CellsIn.el rfl hX)) ?_
                      refine JM.setv (u' := sgV x') 124 rfl rfl ?_
                      refine JM.take 5 (fun _ h => h) rfl (by kernel_rfl) rfl rfl rfl (m' := 63) rfl (Pur.move rfl) ?_
                      refine JM.one (i := 6) (by kernel_rfl) ?_
                      refine JMi.effR (fun _ h => h) rfl rfl rfl rfl (m' := 127) rfl (Eff.call rfl (better7_ok (s := s) (t := x') (fs := fs) (gs := gs') (ac := ac) hsn rfl hbs hms ha20 hxn hxb hxm)) ?_
                      refine JM.take 7 (fun _ h => h) rfl (by kernel_rfl) rfl rfl rfl (m' := 255) rfl (Pur.move rfl) ?_
                      refine JM.take 8 (fun _ h => h) rfl (by kernel_rfl) rfl rfl rfl (m' := 511) rfl (Pur.extract rfl rfl) ?_
                      refine JM.setv (u' := .bool true) 127 rfl (congrArg Value.bool (by rw [hB, hf, hpf, hbet]; rfl)) ?_
                      refine JM.take 9 (fun _ h => h) rfl (by kernel_rfl) rfl rfl rfl (m' := 1023) rfl (Pur.extract rfl rfl) ?_
                      refine JM.setv (u' := .int .i64 0) 128 rfl (congrArg (Value.int .i64) (by rw [hB]; rfl)) ?_
                      refine JM.take 10 (fun _ h => h) rfl (by kernel_rfl) rfl rfl rfl (m' := 2047) rfl (Pur.assign rfl) ?_
                      refine JM.take 11 (fun _ h => h) rfl (by kernel_rfl) rfl rfl rfl (m' := 4095) rfl (Pur.assign rfl) ?_
                      refine JM.done rfl ?_
                      refine J.seq rfl ?_
                      refine J.region rfl ?_
                      refine JO.pur rfl rfl rfl (Pur.move rfl) ?_
                      refine JO.pur rfl rfl rfl (Pur.eqlI rfl rfl) ?_
                      refine JO.pur rfl rfl rfl (Pur.move rfl) ?_
                      refine JO.setv (u' := .bool true) 131 rfl (congrArg Value.bool (decide_eq_true rfl)) ?_
                      refine JO.pur rfl rfl rfl (Pur.move rfl) ?_
                      refine JO.pur rfl rfl rfl (Pur.pickT rfl rfl) ?_
                      refine JO.pur rfl rfl rfl (Pur.move rfl) ?_
                      refine JO.effR rfl rfl rfl (Eff.call rfl (lawFirst_ok)) ?_
                      refine JO.pur rfl rfl rfl (Pur.pickT rfl rfl) ?_
                      refine JO.pur rfl rfl rfl (Pur.assign rfl) ?_
                      refine JO.nil ?_
                      refine J.ret rfl rfl ?_
                      refine ⟨_, _, ⟨rfl, rfl⟩, rfl, SubC.out⟩
                    · try simp only [decide_eq_true_eq, decide_eq_false_iff_not, Bool.not_eq_true', Bool.not_eq_false', Bool.and_eq_true, Bool.or_eq_true, Bool.and_eq_false_iff, Bool.or_eq_false_iff, Option.isNone_some, Option.isSome_some, Option.isNone_none, Option.isSome_none, Int.not_lt, Int.not_le, beq_iff_eq, beq_eq_false_iff_ne, bne_iff_ne, ne_eq, Bool.not_not, Decidable.not_not] at h112
                      refine J.condF rfl rfl ?_
                      refine J.skip rfl ?_
                      refine J.inBlock ?_
                      refine J.seq rfl ?_
                      refine J.region rfl ?_
                      refine JO.pur rfl rfl rfl (Pur.move rfl) ?_
                      refine JO.pur rfl rfl rfl (Pur.eqlI rfl rfl) ?_
                      refine JO.pur rfl rfl rfl (Pur.move rfl) ?_
                      refine JO.splitB 139 rfl (fun h139 => ?_) (fun h139 => ?_)
                      · try simp only [decide_eq_true_eq, decide_eq_false_iff_not, Bool.not_eq_true', Bool.not_eq_false', Bool.and_eq_true, Bool.or_eq_true, Bool.and_eq_false_iff, Bool.or_eq_false_iff, Option.isNone_some, Option.isSome_some, Option.isNone_none, Option.isSome_none, Int.not_lt, Int.not_le, beq_iff_eq, beq_eq_false_iff_ne, bne_iff_ne, ne_eq, Bool.not_not, Decidable.not_not] at h139
                        refine JO.no rfl rfl rfl ?_
                        refine JO.no rfl rfl rfl ?_
                        refine JO.pur rfl rfl rfl (Pur.pickT rfl rfl) ?_
                        refine JO.pur rfl rfl rfl (Pur.move rfl) ?_
                        refine JO.effR rfl rfl rfl (Eff.call rfl (lawFirst_ok)) ?_
                        refine JO.pur rfl rfl rfl (Pur.pickT rfl rfl) ?_
                        refine JO.pur rfl rfl rfl (Pur.assign rfl) ?_
                        refine JO.nil ?_
                        refine J.ret rfl rfl ?_
                        refine ⟨_, _, ⟨rfl, rfl⟩, rfl, SubC.out⟩
                      · try simp only [decide_eq_true_eq, decide_eq_false_iff_not, Bool.not_eq_true', Bool.not_eq_false', Bool.and_eq_true, Bool.or_eq_true, Bool.and_eq_false_iff, Bool.or_eq_false_iff, Option.isNone_some, Option.isSome_some, Option.isNone_none, Option.isSome_none, Int.not_lt, Int.not_le, beq_iff_eq, beq_eq_false_iff_ne, bne_iff_ne, ne_eq, Bool.not_not, Decidable.not_not] at h139
                        refine JO.pur rfl rfl rfl (Pur.move rfl) ?_
                        refine JO.pur rfl rfl rfl (Pur.eqlI rfl rfl) ?_
                        refine JO.pur rfl rfl rfl (Pur.pickF rfl rfl) ?_
                        refine JO.pur rfl rfl rfl (Pur.move rfl) ?_
                        refine JO.setv (u' := .bool true) 143 rfl (congrArg Value.bool (decide_eq_true ((top_end (ps := ls.zip xss) (q := (s, fs)) hf h63).resolve_left h139))) ?_
                        refine JO.effR rfl rfl rfl (Eff.call rfl (lawFirst_ok)) ?_
                        refine JO.pur rfl rfl rfl (Pur.pickT rfl rfl) ?_
                        refine JO.pur rfl rfl rfl (Pur.assign rfl) ?_
                        refine JO.nil ?_
                        refine J.ret rfl rfl ?_
                        refine ⟨_, _, ⟨rfl, rfl⟩, rfl, SubC.out⟩
                  · try simp only [decide_eq_true_eq, decide_eq_false_iff_not, Bool.not_eq_true', Bool.not_eq_false', Bool.and_eq_true, Bool.or_eq_true, Bool.and_eq_false_iff, Bool.or_eq_false_iff, Option.isNone_some, Option.isSome_some, Option.isNone_none, Option.isSome_none, Int.not_lt, Int.not_le, beq_iff_eq, beq_eq_false_iff_ne, bne_iff_ne, ne_eq, Bool.not_not, Decidable.not_not] at h115
                    refine JO.no rfl rfl rfl ?_
                    refine JO.no rfl rfl rfl ?_
                    refine JO.pur rfl rfl rfl (Pur.pickF rfl rfl) ?_
                    refine JO.pur rfl rfl rfl (Pur.assign rfl) ?_
                    refine JO.nil ?_
                    refine J.condF rfl rfl ?_
                    refine J.skip rfl ?_
                    refine J.inBlock ?_
                    refine J.seq rfl ?_
                    refine J.region rfl ?_
                    refine JO.pur rfl rfl rfl (Pur.move rfl) ?_
                    refine JO.pur rfl rfl rfl (Pur.eqlI rfl rfl) ?_
                    refine JO.pur rfl rfl rfl (Pur.move rfl) ?_
                    refine JO.splitB 139 rfl (fun h139 => ?_) (fun h139 => ?_)
                    · try simp only [decide_eq_true_eq, decide_eq_false_iff_not, Bool.not_eq_true', Bool.not_eq_false', Bool.and_eq_true, Bool.or_eq_true, Bool.and_eq_false_iff, Bool.or_eq_false_iff, Option.isNone_some, Option.isSome_some, Option.isNone_none, Option.isSome_none, Int.not_lt, Int.not_le, beq_iff_eq, beq_eq_false_iff_ne, bne_iff_ne, ne_eq, Bool.not_not, Decidable.not_not] at h139
                      refine JO.no rfl rfl rfl ?_
                      refine JO.no rfl rfl rfl ?_
                      refine JO.pur rfl rfl rfl (Pur.pickT rfl rfl) ?_
                      refine JO.pur rfl rfl rfl (Pur.move rfl) ?_
                      refine JO.effR rfl rfl rfl (Eff.call rfl (lawFirst_ok)) ?_
                      refine JO.pur rfl rfl rfl (Pur.pickT rfl rfl) ?_
                      refine JO.pur rfl rfl rfl (Pur.assign rfl) ?_
                      refine JO.nil ?_
                      refine J.ret rfl rfl ?_
                      refine ⟨_, _, ⟨rfl, rfl⟩, rfl, SubC.out⟩
                    · try simp only [decide_eq_true_eq, decide_eq_false_iff_not, Bool.not_eq_true', Bool.not_eq_false', Bool.and_eq_true, Bool.or_eq_true, Bool.and_eq_false_iff, Bool.or_eq_false_iff, Option.isNone_some, Option.isSome_some, Option.isNone_none, Option.isSome_none, Int.not_lt, Int.not_le, beq_iff_eq, beq_eq_false_iff_ne, bne_iff_ne, ne_eq, Bool.not_not, Decidable.not_not] at h139
                      refine JO.pur rfl rfl rfl (Pur.move rfl) ?_
                      refine JO.pur rfl rfl rfl (Pur.eqlI rfl rfl) ?_
                      refine JO.pur rfl rfl rfl (Pur.pickF rfl rfl) ?_
                      refine JO.pur rfl rfl rfl (Pur.move rfl) ?_
                      refine JO.setv (u' := .bool true) 143 rfl (congrArg Value.bool (decide_eq_true ((top_end (ps := ls.zip xss) (q := (s, fs)) hf h63).resolve_left h139))) ?_
                      refine JO.effR rfl rfl rfl (Eff.call rfl (lawFirst_ok)) ?_
                      refine JO.pur rfl rfl rfl (Pur.pickT rfl rfl) ?_
                      refine JO.pur rfl rfl rfl (Pur.assign rfl) ?_
                      refine JO.nil ?_
                      refine J.ret rfl rfl ?_
                      refine ⟨_, _, ⟨rfl, rfl⟩, rfl, SubC.out⟩

end Go.Proofs.YtbmepcipnnlcnaaDoor
