/-
  A part of the proof of the claim that this folder bears.
-/
import Derived.Test.YthdaopmfgmojnaaPAH
/- The text ORun. -/
set_option linter.unusedVariables false
set_option linter.unusedSimpArgs false
namespace Go.Proofs.Ythdaopmfgmojnaa
open Go Go.KK Ow

structure PlainD (d : Deed) : Prop where
  ok : deedOk d = true
  e1 : ¬ d.act = sEither
  e2 : ¬ d.act = sOr
  e3 : ¬ d.act = sEnd
theorem plain_nine {d : Deed} (h : PlainD d) : (d.act = sNew ∨ d.act = sShare ∨ d.act = sRaw ∨ d.act = sUse ∨ d.act = sFree ∨ d.act = sDrop ∨ d.act = sMove ∨ d.act = sCopy ∨ d.act = sBorrow) ∧ isVarB d.var = true ∧ (fromB d.act = true → isVarB d.src = true) := by
  have h1 := h.ok
  unfold deedOk need at h1
  split at h1
  · cases h1
  · rename_i v f hn
    split at hn
    · rename_i ha
      cases hn
      simp only [nameOk, Bool.and_eq_true, if_true] at h1
      refine ⟨by rcases ha with h | h | h | h | h | h <;> simp [h], h1.1, fun hf => ?_⟩
      exfalso
      rcases ha with h | h | h | h | h | h <;> (rw [h] at hf; revert hf; decide)
    · split at hn
      · rename_i ha
        cases hn
        simp only [nameOk, Bool.and_eq_true, if_true] at h1
        exact ⟨by rcases ha with h | h | h <;> simp [h], h1.1, fun _ => h1.2⟩
      · split at hn
        · rename_i ha
          rcases ha with h2 | h2 | h2
          · exact absurd h2 h.e1
          · exact absurd h2 h.e2
          · exact absurd h2 h.e3
        · cases hn
theorem way_plain {l : List Deed} {c : List Bool} (hv : ∃ o, vfold l l.length = some o) : ∀ {n : Nat}, n ≤ l.length → ∀ i ∈ (wfold l c n).steps, i < n ∧ PlainD (dd l i)
  | 0, _, i, h => by simp [wfold] at h
  | n + 1, hn, i, h => by
    have ih := way_plain (c := c) hv (n := n) (by omega)
    rw [wfold_succ (by omega)] at h
    obtain ⟨o, ho⟩ := hv
    obtain ⟨o1, h1⟩ := vfold_pre (m := n + 1) (by omega) (Nat.le_refl _) ho
    obtain ⟨o0, h2, h3⟩ := vfold_some (by omega) h1
    have key : i ∈ (wfold l c n).steps → i < n + 1 ∧ PlainD (dd l i) := fun h => ⟨by have := (ih i h).1; omega, (ih i h).2⟩
    unfold wstep at h
    split at h
    · split at h <;> exact key h
    · rename_i e1
      split at h
      · split at h <;> exact key h
      · rename_i e2
        split at h
        · split at h <;> exact key h
        · rename_i e3
          split at h
          · simp only [List.mem_append, List.mem_singleton] at h
            rcases h with h | h
            · exact key h
            · subst h
              refine ⟨by omega, ?_, e1, e2, e3⟩
              unfold vstep at h3
              split at h3
              · cases h3
              · rename_i h4; simpa using h4
          · exact key h
def rfold (xs : List Deed) : List Nat → Sx → Sx × Str × Int
  | [], σ => (σ, sNone, -1)
  | i :: r, σ => if wrongS σ (dd xs i) = sNone then rfold xs r (doS σ (dd xs i)) else (σ, wrongS σ (dd xs i), (i : Int))
theorem rfold_yes {xs : List Deed} {i : Nat} {r : List Nat} {σ : Sx} (h : wrongS σ (dd xs i) = sNone) : rfold xs (i :: r) σ = rfold xs r (doS σ (dd xs i)) := by rw [rfold, if_pos h]
theorem rfold_no {xs : List Deed} {i : Nat} {r : List Nat} {σ : Sx} (h : ¬ wrongS σ (dd xs i) = sNone) : rfold xs (i :: r) σ = (σ, wrongS σ (dd xs i), (i : Int)) := by rw [rfold, if_neg h]
def runV (xs : List Deed) (cs : List Bool) : Sx × Str × Int := rfold xs (wayV xs cs).steps Ow.start
theorem good_plain {σ : Sx} (g : Ow.Good σ) {d : Deed} (hd : PlainD d) (h : wrongS σ d = sNone) : Ow.Good (doS σ d) := by
  obtain ⟨h1, h2, h3⟩ := plain_nine hd
  exact good_do g (vi_lt h2) (fun hf => vi_lt (h3 hf)) (wrong_none h)
theorem rfold_good {xs : List Deed} : ∀ {l : List Nat} {σ : Sx}, Ow.Good σ → (∀ i ∈ l, PlainD (dd xs i)) → Ow.Good (rfold xs l σ).1
  | [], σ, g, _ => g
  | i :: r, σ, g, h => by
    unfold rfold
    split
    · rename_i hw
      exact rfold_good (good_plain g (h i (by simp)) hw) (fun j hj => h j (by simp [hj]))
    · exact g
theorem runV_good {xs : List Deed} {cs : List Bool} (hv : ∃ o, vfold xs xs.length = some o) : Ow.Good (runV xs cs).1 :=
  rfold_good good_start (fun i hi => (way_plain (c := cs) hv (Nat.le_refl _) i hi).2)
theorem _root_.Go.KK.CellsIn.blkP {L : List Asn} {b : Nat} {cs ds : List Value} {T : TypeId} {fz : Nat × Nat} [hb : BlkIn L b (.cells cs.toArray T fz)] (hp : ∃ r, cs = ds ++ r) : CellsIn L ⟨b, 0, none⟩ ds := fun h hh j v hv => by
  obtain ⟨r, rfl⟩ := hp
  refine CellsIn.blk (L := L) (b := b) (cs := ds ++ r) (T := T) (fz := fz) h hh j v ?_
  rw [List.getElem?_append_left (List.getElem?_eq_some_iff.1 hv).1]; exact hv

theorem do_ok {L : List Asn} {b : Nat} {aa ac af : Option Addr} {ca cc cf : Nat} {σ : Sx} {d : Deed} (g : Ow.Good σ) (hd : PlainD d) : CallS Try.prog 49 [.pointer (some ⟨b, 0, none⟩), .agg #[.string d.act, .string d.var, .string d.src]].toArray (blk b (arr vrE σ.vars [.slice aa σ.alive.length ca, .slice ac σ.count.length cc, .slice af (fz σ.freed).length cf] 66) :: sl boolE aa ca σ.alive :: sl intE ac cc σ.count :: sl intE af cf (fz σ.freed) :: L) (fun x M => ∃ aa' ca' ac' cc' af' cf', x = .string (wrongS σ d) ∧ M = blk b (arr vrE (doW σ d).vars [.slice aa' (doW σ d).alive.length ca', .slice ac' (doW σ d).count.length cc', .slice af' (fz (doW σ d).freed).length cf'] 66) :: sl boolE aa' ca' (doW σ d).alive :: sl intE ac' cc' (doW σ d).count :: sl intE af' cf' (fz (doW σ d).freed) :: L) := by
  obtain ⟨h1, h2, h3⟩ := plain_nine hd
  obtain ⟨act, var, src⟩ := d
  dsimp only at h1 h2 h3
  rcases h1 with h | h | h | h | h | h | h | h | h <;> subst h
  · exact do_sNew g h2
  · exact do_sShare g h2
  · exact do_sRaw g h2
  · exact do_sUse g h2
  · exact do_sFree g h2
  · exact do_sDrop g h2
  · exact do_sMove g h2 (h3 (by decide))
  · exact do_sCopy g h2 (h3 (by decide))
  · exact do_sBorrow g h2 (h3 (by decide))
set_option maxRecDepth 10000 in
theorem run_ok {L : List Asn} {a b : Option Addr} {n cp m cq : Nat} {xs : List Deed} {cs : List Bool} [SlIn deedE L a xs] [SlIn boolE L b cs] (hn : n = xs.length) (hm : m = cs.length) (hb : xs.length ≤ 60) (hv : ∃ o, vfold xs xs.length = some o) :
    CallS Try.prog 34 [.slice a n cp, .slice b m cq].toArray L (fun v M => ∃ p aa' ca' ac' cc' af' cf', v = .tuple #[.pointer (some ⟨p, 0, none⟩), .string (runV xs cs).2.1, .int .i64 (runV xs cs).2.2] ∧ M = blk p (arr vrE (runV xs cs).1.vars [.slice aa' (runV xs cs).1.alive.length ca', .slice ac' (runV xs cs).1.count.length cc', .slice af' (fz (runV xs cs).1.freed).length cf'] 66) :: sl boolE aa' ca' (runV xs cs).1.alive :: sl intE ac' cc' (runV xs cs).1.count :: sl intE af' cf' (fz (runV xs cs).1.freed) :: L) := by
  subst hn
  subst hm
  refine CallS.ent ?_
  refine CallS.enter Try.func34 rfl rfl rfl rfl rfl ?_
  refine J.seq rfl ?_
  refine J.region rfl ?_
  refine JO.pur rfl rfl rfl (Pur.assign rfl) ?_
  refine JO.pur rfl rfl rfl (Pur.assign rfl) ?_
  refine JO.pur rfl rfl rfl (Pur.assign rfl) ?_
  refine JO.nil ?_
  refine J.seq rfl ?_
  refine J.region rfl ?_
  refine JO.eff rfl rfl rfl (Eff.buildSlice boolE [false] rfl rfl rfl rfl rfl rfl rfl) ?_
  rintro _ _ ⟨b12, rfl, -, rfl⟩
  refine JO.eff rfl rfl rfl (Eff.buildSlice intE [0] rfl rfl rfl rfl rfl rfl rfl) ?_
  rintro _ _ ⟨b13, rfl, -, rfl⟩
  refine JO.pur rfl rfl rfl (Pur.build (cs := [_, _, _, _, _, _, _, _, _, _, _, _, _, _, _, _, _, _, _]) rfl rfl) ?_
  refine JO.eff rfl rfl rfl (Eff.box (cs := [_, _, _, _, _, _, _, _, _, _, _, _, _, _, _, _, _, _, _]) rfl rfl) ?_
  rintro _ _ ⟨b15, rfl, rfl⟩
  refine JO.pur rfl rfl rfl (Pur.assign rfl) ?_
  refine JO.nil ?_
  refine J.seq rfl ?_
  refine J.imp (M := blk b15 (arr vrE Ow.start.vars [.slice (some ⟨b12, 0, none⟩) Ow.start.alive.length 1, .slice (some ⟨b13, 0, none⟩) Ow.start.count.length 1, .slice none (fz Ow.start.freed).length 0] 66) :: sl boolE (some ⟨b12, 0, none⟩) 1 Ow.start.alive :: sl intE (some ⟨b13, 0, none⟩) 1 Ow.start.count :: sl intE none 0 (fz Ow.start.freed) :: L) (fun h s => ?_) ?_
  · have s2 : Sat h (blk b15 (arr vrE Ow.start.vars [.slice (some ⟨b12, 0, none⟩) Ow.start.alive.length 1, .slice (some ⟨b13, 0, none⟩) Ow.start.count.length 1, .slice none (fz Ow.start.freed).length 0] 66) :: sl intE (some ⟨b13, 0, none⟩) 1 Ow.start.count :: sl boolE (some ⟨b12, 0, none⟩) 1 Ow.start.alive :: L) := s
    rw [show fz Ow.start.freed = [] from rfl] at s2 ⊢
    exact SubC.out h (sl_nil_new (E := intE) s2)
  refine J.region rfl ?_
  refine JO.pur rfl rfl rfl (Pur.move rfl) ?_
  refine JO.pur rfl rfl rfl (Pur.move rfl) ?_
  refine JO.eff rfl rfl rfl (Eff.call rfl (way_ok (xs := xs) (cs := cs) rfl rfl hb hv)) ?_
  rintro _ _ ⟨a7, c7, a8, c8, rfl, rfl⟩
  refine JO.pur rfl rfl rfl (Pur.move rfl) ?_
  refine JO.pur rfl rfl rfl (Pur.extract rfl rfl) ?_
  refine JO.pur rfl rfl rfl (Pur.extract rfl rfl) ?_
  refine JO.pur rfl rfl rfl (Pur.assign rfl) ?_
  refine JO.pur rfl rfl rfl (Pur.assign rfl) ?_
  refine JO.nil ?_
  refine J.seq rfl ?_
  refine J.seq rfl ?_
  obtain ⟨S, hS⟩ : ∃ S, S = (wayV xs cs).steps := ⟨_, rfl⟩
  rw [← hS]
  have hSl := sp_len xs S
  have hpl : ∀ i ∈ S, i < xs.length ∧ PlainD (dd xs i) := by rw [hS]; exact way_plain hv (Nat.le_refl _)
  have hS60 : S.length ≤ 60 := by rw [hS]; exact Nat.le_trans (wlen (Nat.le_refl _)).1 hb
  refine J.region rfl ?_
  refine JO.pur rfl rfl rfl (Pur.move rfl) ?_
  refine JO.pur rfl rfl rfl (Pur.len rfl) ?_
  refine JO.pur rfl rfl rfl (Pur.move rfl) ?_
  refine JO.nil ?_
  refine J.block rfl ?_
  refine J.loopF (ι := Nat × Sx × Option Addr × Nat × Option Addr × Nat × Option Addr × Nat) (fun q => q.1 ≤ S.length ∧ Ow.Good q.2.1 ∧ rfold xs (S.drop q.1) q.2.1 = runV xs cs) (fun q => [(4, .pointer (some ⟨b15, 0, none⟩)), (24, .int .i64 (q.1 : Int))]) [(22, _), (23, _)] (fun q => blk b15 (arr vrE q.2.1.vars [.slice q.2.2.1 q.2.1.alive.length q.2.2.2.1, .slice q.2.2.2.2.1 q.2.1.count.length q.2.2.2.2.2.1, .slice q.2.2.2.2.2.2.1 (fz q.2.1.freed).length q.2.2.2.2.2.2.2] 66) :: sl boolE q.2.2.1 q.2.2.2.1 q.2.1.alive :: sl intE q.2.2.2.2.1 q.2.2.2.2.2.1 q.2.1.count :: sl intE q.2.2.2.2.2.2.1 q.2.2.2.2.2.2.2 (fz q.2.1.freed) :: sl stepE a7 c7 (sp xs S) :: sl intE a8 c8 (fz (wayV xs cs).met) :: L) (fun q => S.length - q.1) (0, Ow.start, some ⟨b12, 0, none⟩, 1, some ⟨b13, 0, none⟩, 1, none, 0) rfl (.cons rfl rfl (.cons rfl rfl .nil)) (.cons rfl rfl (.cons rfl rfl .nil)) (fun h s => by dsimp only; exact SubC.out h s) ⟨Nat.zero_le _, good_start, by unfold runV; rw [hS]; rfl⟩ ?_
  rintro ⟨k, σ, aa, ca, ac, cc, af, cf⟩ ⟨hk, g, hrf⟩ ih0
  try dsimp only
  dsimp only at hk g hrf
  refine J.seq rfl ?_
  refine J.region rfl ?_
  refine JO.pur rfl rfl rfl (Pur.lss rfl rfl) ?_
  refine JO.nil ?_
  refine J.seq rfl ?_
  refine J.splitB 25 rfl (fun h25 => ?_) (fun h25 => ?_)
  · try simp only [decide_eq_true_eq, decide_eq_false_iff_not, Bool.not_eq_true', Bool.not_eq_false', Bool.and_eq_true, Bool.or_eq_true, Bool.and_eq_false_iff, Bool.or_eq_false_iff, Option.isNone_some, Option.isSome_some, Option.isNone_none, Option.isSome_none, Int.not_lt, Int.not_le, beq_iff_eq, beq_eq_false_iff_ne, bne_iff_ne, ne_eq, Bool.not_not, Decidable.not_not] at h25
    have hkl : k < S.length := by omega
    obtain ⟨j, hj⟩ : ∃ j, S[k]? = some j := ⟨_, List.getElem?_eq_getElem hkl⟩
    have hjm : j ∈ S := List.mem_of_getElem? hj
    obtain ⟨hjl, hpj⟩ := hpl j hjm
    have hx : (sp xs S)[k]? = some (dd xs j, j) := by unfold sp; rw [List.getElem?_map, hj]; rfl
    have hdr : S.drop k = j :: S.drop (k + 1) := by rw [List.drop_eq_getElem_cons hkl]; congr 1; rw [List.getElem?_eq_getElem hkl] at hj; exact Option.some.inj hj
    refine J.condT rfl rfl ?_
    refine J.skip rfl ?_
    refine J.seq rfl ?_
    refine J.block rfl ?_
    refine J.seq rfl ?_
    refine J.region rfl ?_
    refine JO.pur rfl rfl rfl (Pur.idx rfl rfl rfl (by first | rfl | (simp; done) | omega) rfl (by omega)) ?_
    refine JO.pur rfl rfl rfl (Pur.loadA rfl rfl rfl (CellsIn.el rfl hx)) ?_
    refine JO.eff rfl rfl rfl (Eff.alloc (cs := [_, _, _, _]) rfl) ?_
    rintro _ _ ⟨b10, rfl, rfl⟩
    refine JO.effN rfl rfl (Eff.storeBA (cs' := [_, _, _, _]) rfl rfl (by rfl) (by rfl) (by rfl)) ?_
    rintro _ _ ⟨rfl, rfl⟩
    refine JO.nil ?_
    refine J.seq rfl ?_
    refine J.region rfl ?_
    refine JO.pur rfl rfl rfl (Pur.move rfl) ?_
    refine JO.pur rfl rfl rfl (Pur.fieldAddr rfl) ?_
    refine JO.pur rfl rfl rfl (Pur.loadA rfl rfl rfl (CellsIn.blkP (ds := [_, _, _]) (by exact ⟨[_], rfl⟩))) ?_
    refine JO.eff rfl rfl rfl (Eff.call rfl (CallS.pre (do_ok (b := b15) (aa := aa) (ca := ca) (ac := ac) (cc := cc) (af := af) (cf := cf) (σ := σ) (d := dd xs j) (L := blk b10 (.cells #[.string (dd xs j).act, .string (dd xs j).var, .string (dd xs j).src, .int .i64 (j : Int)] 80) :: sl stepE a7 c7 (sp xs S) :: sl intE a8 c8 (fz (wayV xs cs).met) :: L) g hpj) SubC.out)) ?_
    rintro _ _ ⟨aa1, ca1, ac1, cc1, af1, cf1, rfl, rfl⟩
    refine JO.pur rfl rfl rfl (Pur.assign rfl) ?_
    refine JO.nil ?_
    refine J.seq rfl ?_
    refine J.region rfl ?_
    refine JO.pur rfl rfl rfl (Pur.move rfl) ?_
    refine JO.pur rfl rfl rfl (Pur.neqT rfl rfl) ?_
    refine JO.nil ?_
    refine J.splitB 33 rfl (fun h33 => ?_) (fun h33 => ?_)
    · try simp only [decide_eq_true_eq, decide_eq_false_iff_not, Bool.not_eq_true', Bool.not_eq_false', Bool.and_eq_true, Bool.or_eq_true, Bool.and_eq_false_iff, Bool.or_eq_false_iff, Option.isNone_some, Option.isSome_some, Option.isNone_none, Option.isSome_none, Int.not_lt, Int.not_le, beq_iff_eq, beq_eq_false_iff_ne, bne_iff_ne, ne_eq, Bool.not_not, Decidable.not_not] at h33
      have hr : ¬ wrongS σ (dd xs j) = sNone := h33
      refine J.condT rfl rfl ?_
      refine J.seq rfl ?_
      refine J.quiet rfl Try.mixed (by kernel_rfl) ?_
      refine JQ.pur rfl rfl rfl (Pur.move rfl) ?_
      refine JQ.pur rfl rfl rfl (Pur.move rfl) ?_
      refine JQ.pur rfl rfl rfl (Pur.fieldAddr rfl) ?_
      refine JQ.pur rfl rfl rfl (Pur.load rfl (CellIn.blk rfl)) ?_
      refine JQ.pur rfl rfl rfl (Pur.assign rfl) ?_
      refine JQ.pur rfl rfl rfl (Pur.assign rfl) ?_
      refine JQ.pur rfl rfl rfl (Pur.assign rfl) ?_
      refine JQ.nil ?_
      refine J.ret rfl rfl ?_
      have hrv : runV xs cs = (σ, wrongS σ (dd xs j), (j : Int)) := by rw [← hrf, hdr, rfold_no hr]
      exact ⟨_, _, ⟨b15, aa1, ca1, ac1, cc1, af1, cf1, by rw [hrv]; rfl, rfl⟩, rfl, fun h s => by rw [hrv]; rw [doW_no hr] at s; exact SubC.out h s⟩
    · try simp only [decide_eq_true_eq, decide_eq_false_iff_not, Bool.not_eq_true', Bool.not_eq_false', Bool.and_eq_true, Bool.or_eq_true, Bool.and_eq_false_iff, Bool.or_eq_false_iff, Option.isNone_some, Option.isSome_some, Option.isNone_none, Option.isSome_none, Int.not_lt, Int.not_le, beq_iff_eq, beq_eq_false_iff_ne, bne_iff_ne, ne_eq, Bool.not_not, Decidable.not_not] at h33
      have hr : wrongS σ (dd xs j) = sNone := h33
      refine J.condF rfl rfl ?_
      refine J.skip rfl ?_
      refine J.inBlock ?_
      refine J.region rfl ?_
      refine JO.pur rfl rfl rfl (Pur.add rfl rfl (wr64 (by omega))) ?_
      refine JO.pur rfl rfl rfl (Pur.move rfl) ?_
      refine JO.nil ?_
      exact J.weaken (.cons rfl rfl (.cons rfl (congrArg (Value.int .i64) (by dsimp only; omega)) (.cons rfl rfl (.cons rfl rfl .nil)))) (fun h s => by dsimp only; rw [doW_yes hr] at s; exact SubC.out h s) (ih0 (k + 1, doS σ (dd xs j), aa1, ca1, ac1, cc1, af1, cf1) ⟨(by dsimp only; omega), good_plain g hpj hr, (by dsimp only; rw [← hrf, hdr, rfold_yes hr])⟩ (by dsimp only; omega))
  · try simp only [decide_eq_true_eq, decide_eq_false_iff_not, Bool.not_eq_true', Bool.not_eq_false', Bool.and_eq_true, Bool.or_eq_true, Bool.and_eq_false_iff, Bool.or_eq_false_iff, Option.isNone_some, Option.isSome_some, Option.isNone_none, Option.isSome_none, Int.not_lt, Int.not_le, beq_iff_eq, beq_eq_false_iff_ne, bne_iff_ne, ne_eq, Bool.not_not, Decidable.not_not] at h25
    refine J.condF rfl rfl ?_
    refine J.exit rfl rfl ?_
    refine J.seq rfl ?_
    refine J.region rfl ?_
    refine JO.pur rfl rfl rfl (Pur.move rfl) ?_
    refine JO.pur rfl rfl rfl (Pur.assign rfl) ?_
    refine JO.pur rfl rfl rfl (Pur.assign rfl) ?_
    refine JO.pur rfl rfl rfl (Pur.assign rfl) ?_
    refine JO.nil ?_
    refine J.ret rfl rfl ?_
    have hrv : runV xs cs = (σ, sNone, -1) := by rw [← hrf, List.drop_of_length_le (by omega)]; rfl
    exact ⟨_, _, ⟨b15, aa, ca, ac, cc, af, cf, by rw [hrv]; rfl, rfl⟩, rfl, fun h s => by rw [hrv]; exact SubC.out h s⟩

end Go.Proofs.Ythdaopmfgmojnaa
