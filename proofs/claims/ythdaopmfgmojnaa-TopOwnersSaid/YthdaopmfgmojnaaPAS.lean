/-
  A part of the proof of the claim that this folder bears.
-/
import Derived.Test.YthdaopmfgmojnaaPAR
/- The text OLaw3. -/
set_option linter.unusedVariables false
set_option linter.unusedSimpArgs false
namespace Go.Proofs.Ythdaopmfgmojnaa
open Go Go.KK Ow

def DL : List Deed := [⟨⟨#[110, 101, 119]⟩, ⟨#[97]⟩, .empty⟩, ⟨⟨#[98, 111, 114, 114, 111, 119]⟩, ⟨#[98]⟩, ⟨#[97]⟩⟩, ⟨⟨#[100, 114, 111, 112]⟩, ⟨#[97]⟩, .empty⟩, ⟨⟨#[117, 115, 101]⟩, ⟨#[98]⟩, .empty⟩]
theorem DL_run : runR DL [] = (⟨#[103, 111, 110, 101]⟩, 3, 0) := by kernel_rfl
theorem DL_acc : acV (DL.take 3) = (true, 0) := by kernel_rfl
theorem foldU_rf (xs : List Deed) : ∀ (l : List (List Bool)) (i : Option (List Bool)), (∀ c ∈ l, c.length ≤ 8) → (∀ c ∈ i, c.length ≤ 8) → ∀ c ∈ foldU (rf xs) l i, c.length ≤ 8
  | [], i, _, hi, c, hc => hi c (by rw [foldU] at hc; exact hc)
  | d :: r, i, h, hi, c, hc => by
    by_cases hr : (runV xs d).2.1 = sNone
    · rw [foldU_yes (by rw [rf_yes hr]), rf_yes hr] at hc
      exact foldU_rf xs r i (fun c hc => h c (by simp [hc])) hi c hc
    · rw [foldU_no (by rw [rf_no hr]; simp), rf_no hr] at hc
      have : c = d.take (lead (wayV xs d).met (runV xs d).2.2) := by simpa using hc.symm
      subst this
      have := h d (by simp)
      simp; omega
theorem T_lens (l : List Deed) : ∀ (f : Nat) (c0 : List Bool), f + c0.length ≤ 8 → ∀ c ∈ T l f c0, c.length ≤ 8
  | 0, c0, h, c, hc => by rw [T, List.mem_singleton] at hc; subst hc; omega
  | f + 1, c0, h, c, hc => by
    rw [T] at hc
    split at hc
    · rw [List.mem_singleton] at hc; subst hc; omega
    · rcases List.mem_append.1 hc with hc | hc
      · exact T_lens l f _ (by simp; omega) c hc
      · exact T_lens l f _ (by simp; omega) c hc
theorem reV_len (xs : List Deed) : (reV xs).1.length ≤ 8 := by
  unfold reV
  split
  · show ((rfV xs).getD []).length ≤ 8
    cases h : rfV xs with
    | none => simp
    | some c => exact foldU_rf xs (Fut xs []) none (fun c hc => T_lens xs 8 [] (by simp) c (by rw [Fut_nil] at hc; exact hc)) (by simp) c (by rw [Option.mem_def]; exact h)
  · simp
theorem frV_len (xs : List Deed) (cs : List Bool) : (frV xs cs).1.length ≤ 21 := by
  unfold frV
  split
  · rename_i hv
    have g := endV_good (cs := cs) (valid_open hv)
    have h1 := freed_le g
    have h2 := g.n21
    have h3 := fz_len (endV xs cs).freed
    show (fz (endV xs cs).freed).length ≤ 21; omega
  · simp
theorem lkV_len (xs : List Deed) (cs : List Bool) : (lkV xs cs).1.length ≤ 21 := by
  unfold lkV
  split
  · rename_i hv
    have g := endV_good (cs := cs) (valid_open hv)
    have h2 := g.n21
    have h3 := lk_len (endV xs cs).alive (endV xs cs).alive.length
    show (lk (endV xs cs).alive (endV xs cs).alive.length).length ≤ 21; omega
  · simp
theorem strV_len (xs : List Deed) (cs : List Bool) : (strV xs cs).1.length ≤ 60 := by
  unfold strV
  split
  · rename_i hv
    have h1 := valid_len hv
    have h2 := (wlen (l := xs) (c := cs) (Nat.le_refl _)).1
    show ((wayV xs cs).steps.map (dd xs)).length ≤ 60
    rw [List.length_map]; exact Nat.le_trans h2 h1
  · simp
theorem awake_ok {L : List Asn} :
    CallS Try.prog 15 [].toArray L (fun v M => v = .bool true ∧ M = L) := by
  refine CallS.ent ?_
  refine CallS.enter Try.func15 rfl rfl rfl rfl rfl ?_
  refine J.seq rfl ?_
  refine J.region rfl ?_
  refine JO.pur rfl rfl rfl (Pur.assign rfl) ?_
  refine JO.nil ?_
  refine J.seq rfl ?_
  refine J.region rfl ?_
  refine JO.pur rfl rfl rfl (Pur.build (cs := [_, _, _]) rfl rfl) ?_
  refine JO.pur rfl rfl rfl (Pur.build (cs := [_, _, _]) rfl rfl) ?_
  refine JO.pur rfl rfl rfl (Pur.build (cs := [_, _, _]) rfl rfl) ?_
  refine JO.pur rfl rfl rfl (Pur.build (cs := [_, _, _]) rfl rfl) ?_
  refine JO.eff rfl rfl rfl (Eff.buildSlice deedE DL rfl rfl rfl rfl rfl rfl rfl) ?_
  rintro _ _ ⟨b11, rfl, -, rfl⟩
  refine JO.pur rfl rfl rfl (Pur.assign rfl) ?_
  refine JO.nil ?_
  refine J.seq rfl ?_
  refine J.region rfl ?_
  refine JO.pur rfl rfl rfl (Pur.move rfl) ?_
  refine JO.effR rfl rfl rfl (Eff.call rfl (@Run_ok _ _ _ _ _ _ _ DL [] inferInstance SlIn.nil rfl rfl (by decide))) ?_
  rw [DL_run]
  refine JO.pur rfl rfl rfl (Pur.move rfl) ?_
  refine JO.pur rfl rfl rfl (Pur.extract rfl rfl) ?_
  refine JO.pur rfl rfl rfl (Pur.extract rfl rfl) ?_
  refine JO.pur rfl rfl rfl (Pur.extract rfl rfl) ?_
  refine JO.pur rfl rfl rfl (Pur.assign rfl) ?_
  refine JO.pur rfl rfl rfl (Pur.assign rfl) ?_
  refine JO.pur rfl rfl rfl (Pur.assign rfl) ?_
  refine JO.nil ?_
  refine J.seq rfl ?_
  refine J.region rfl ?_
  refine JO.pur rfl rfl rfl (Pur.move rfl) ?_
  refine JO.pur rfl rfl rfl (Pur.slice0 rfl rfl rfl (by decide)) ?_
  refine JO.effR rfl rfl rfl (Eff.call rfl (@Accepts_ok _ _ _ _ (DL.take 3) (SlIn.takeN inferInstance 3) rfl (by decide))) ?_
  rw [DL_acc]
  refine JO.pur rfl rfl rfl (Pur.move rfl) ?_
  refine JO.pur rfl rfl rfl (Pur.extract rfl rfl) ?_
  refine JO.pur rfl rfl rfl (Pur.extract rfl rfl) ?_
  refine JO.pur rfl rfl rfl (Pur.assign rfl) ?_
  refine JO.setv (u' := .bool true) 5 rfl (congrArg Value.bool (rfl)) ?_
  refine JO.pur rfl rfl rfl (Pur.assign rfl) ?_
  refine JO.nil ?_
  refine J.seq rfl ?_
  refine J.region rfl ?_
  refine JO.pur rfl rfl rfl (Pur.move rfl) ?_
  refine JO.pur rfl rfl rfl (Pur.eqlT rfl rfl) ?_
  refine JO.setv (u' := .bool true) 25 rfl (congrArg Value.bool (by simp)) ?_
  refine JO.pur rfl rfl rfl (Pur.move rfl) ?_
  refine JO.pur rfl rfl rfl (Pur.move rfl) ?_
  refine JO.pur rfl rfl rfl (Pur.eqlI rfl rfl) ?_
  refine JO.setv (u' := .bool true) 28 rfl (congrArg Value.bool (by simp)) ?_
  refine JO.pur rfl rfl rfl (Pur.pickT rfl rfl) ?_
  refine JO.pur rfl rfl rfl (Pur.move rfl) ?_
  refine JO.pur rfl rfl rfl (Pur.move rfl) ?_
  refine JO.pur rfl rfl rfl (Pur.eqlI rfl rfl) ?_
  refine JO.setv (u' := .bool true) 32 rfl (congrArg Value.bool (by simp)) ?_
  refine JO.pur rfl rfl rfl (Pur.pickT rfl rfl) ?_
  refine JO.pur rfl rfl rfl (Pur.move rfl) ?_
  refine JO.pur rfl rfl rfl (Pur.move rfl) ?_
  refine JO.pur rfl rfl rfl (Pur.pickT rfl rfl) ?_
  refine JO.pur rfl rfl rfl (Pur.move rfl) ?_
  refine JO.pur rfl rfl rfl (Pur.move rfl) ?_
  refine JO.pur rfl rfl rfl (Pur.eqlI rfl rfl) ?_
  refine JO.setv (u' := .bool true) 39 rfl (congrArg Value.bool (by simp)) ?_
  refine JO.pur rfl rfl rfl (Pur.pickT rfl rfl) ?_
  refine JO.pur rfl rfl rfl (Pur.assign rfl) ?_
  refine JO.nil ?_
  refine J.ret rfl rfl ?_
  exact ⟨_, _, ⟨rfl, rfl⟩, rfl, SubC.out⟩

theorem ownerRuns_ok {L : List Asn} {a b : Option Addr} {n cp m cq : Nat} {xs : List Deed} {cs : List Bool} [SlIn deedE L a xs] [SlIn boolE L b cs] (hn : n = xs.length) (hm : m = cs.length) (hb : xs.length ≤ 3000000000000) :
    CallS Try.prog 3 [.slice a n cp, .slice b m cq].toArray L (fun v M => v = .bool true ∧ M = L) := by
  subst hn
  subst hm
  refine CallS.ent ?_
  refine CallS.enter Try.func3 rfl rfl rfl rfl rfl ?_
  refine J.seq rfl ?_
  refine J.region rfl ?_
  refine JO.pur rfl rfl rfl (Pur.assign rfl) ?_
  refine JO.nil ?_
  refine J.seq rfl ?_
  refine J.region rfl ?_
  refine JO.pur rfl rfl rfl (Pur.move rfl) ?_
  refine JO.pur rfl rfl rfl (Pur.move rfl) ?_
  refine JO.effR rfl rfl rfl (Eff.call rfl (Run_ok (xs := xs) (cs := cs) rfl rfl hb)) ?_
  refine JO.pur rfl rfl rfl (Pur.move rfl) ?_
  refine JO.pur rfl rfl rfl (Pur.extract rfl rfl) ?_
  refine JO.pur rfl rfl rfl (Pur.extract rfl rfl) ?_
  refine JO.pur rfl rfl rfl (Pur.extract rfl rfl) ?_
  refine JO.pur rfl rfl rfl (Pur.assign rfl) ?_
  refine JO.pur rfl rfl rfl (Pur.assign rfl) ?_
  refine JO.pur rfl rfl rfl (Pur.assign rfl) ?_
  refine JO.nil ?_
  refine J.seq rfl ?_
  refine J.region rfl ?_
  refine JO.pur rfl rfl rfl (Pur.move rfl) ?_
  refine JO.pur rfl rfl rfl (Pur.move rfl) ?_
  refine JO.effR rfl rfl rfl (Eff.call rfl (rRun_ok (xs := xs) (cs := cs) rfl rfl)) ?_
  refine JO.pur rfl rfl rfl (Pur.move rfl) ?_
  refine JO.pur rfl rfl rfl (Pur.extract rfl rfl) ?_
  refine JO.pur rfl rfl rfl (Pur.extract rfl rfl) ?_
  refine JO.pur rfl rfl rfl (Pur.extract rfl rfl) ?_
  refine JO.pur rfl rfl rfl (Pur.assign rfl) ?_
  refine JO.pur rfl rfl rfl (Pur.assign rfl) ?_
  refine JO.pur rfl rfl rfl (Pur.assign rfl) ?_
  refine JO.nil ?_
  refine J.seq rfl ?_
  refine J.region rfl ?_
  refine JO.pur rfl rfl rfl (Pur.move rfl) ?_
  refine JO.pur rfl rfl rfl (Pur.move rfl) ?_
  refine JO.pur rfl rfl rfl (Pur.eqlT rfl rfl) ?_
  refine JO.setv (u' := .bool true) 27 rfl (congrArg Value.bool (by simp)) ?_
  refine JO.pur rfl rfl rfl (Pur.move rfl) ?_
  refine JO.pur rfl rfl rfl (Pur.move rfl) ?_
  refine JO.pur rfl rfl rfl (Pur.move rfl) ?_
  refine JO.pur rfl rfl rfl (Pur.eqlI rfl rfl) ?_
  refine JO.setv (u' := .bool true) 31 rfl (congrArg Value.bool (by simp)) ?_
  refine JO.pur rfl rfl rfl (Pur.pickT rfl rfl) ?_
  refine JO.pur rfl rfl rfl (Pur.move rfl) ?_
  refine JO.pur rfl rfl rfl (Pur.move rfl) ?_
  refine JO.pur rfl rfl rfl (Pur.move rfl) ?_
  refine JO.pur rfl rfl rfl (Pur.eqlI rfl rfl) ?_
  refine JO.setv (u' := .bool true) 36 rfl (congrArg Value.bool (by simp)) ?_
  refine JO.pur rfl rfl rfl (Pur.pickT rfl rfl) ?_
  refine JO.pur rfl rfl rfl (Pur.move rfl) ?_
  refine JO.pur rfl rfl rfl (Pur.move rfl) ?_
  refine JO.effR rfl rfl rfl (Eff.call rfl (valid_ok (xs := xs) rfl hb)) ?_
  refine JO.pur rfl rfl rfl (Pur.move rfl) ?_
  refine JO.effR rfl rfl rfl (Eff.call rfl (rvalid_ok (xs := xs) rfl)) ?_
  refine JO.pur rfl rfl rfl (Pur.eqlB rfl rfl) ?_
  refine JO.setv (u' := .bool true) 43 rfl (congrArg Value.bool (by simp)) ?_
  refine JO.pur rfl rfl rfl (Pur.pickT rfl rfl) ?_
  refine JO.pur rfl rfl rfl (Pur.move rfl) ?_
  refine JO.effR rfl rfl rfl (Eff.call rfl (awake_ok)) ?_
  refine JO.setv (u' := .bool true) 46 rfl (congrArg Value.bool (rfl)) ?_
  refine JO.pur rfl rfl rfl (Pur.pickT rfl rfl) ?_
  refine JO.pur rfl rfl rfl (Pur.assign rfl) ?_
  refine JO.nil ?_
  refine J.ret rfl rfl ?_
  exact ⟨_, _, ⟨rfl, rfl⟩, rfl, SubC.out⟩

theorem ownerAccepts_ok {L : List Asn} {a : Option Addr} {n cp : Nat} {xs : List Deed} [SlIn deedE L a xs] (hn : n = xs.length) (hb : xs.length ≤ 3000000000000) :
    CallS Try.prog 4 [.slice a n cp].toArray L (fun v M => v = .bool true ∧ M = L) := by
  subst hn
  refine CallS.ent ?_
  refine CallS.enter Try.func4 rfl rfl rfl rfl rfl ?_
  refine J.seq rfl ?_
  refine J.region rfl ?_
  refine JO.pur rfl rfl rfl (Pur.assign rfl) ?_
  refine JO.nil ?_
  refine J.seq rfl ?_
  refine J.region rfl ?_
  refine JO.pur rfl rfl rfl (Pur.move rfl) ?_
  refine JO.effR rfl rfl rfl (Eff.call rfl (Accepts_ok (xs := xs) rfl hb)) ?_
  refine JO.pur rfl rfl rfl (Pur.move rfl) ?_
  refine JO.pur rfl rfl rfl (Pur.extract rfl rfl) ?_
  refine JO.pur rfl rfl rfl (Pur.extract rfl rfl) ?_
  refine JO.pur rfl rfl rfl (Pur.assign rfl) ?_
  refine JO.pur rfl rfl rfl (Pur.assign rfl) ?_
  refine JO.nil ?_
  refine J.seq rfl ?_
  refine J.region rfl ?_
  refine JO.pur rfl rfl rfl (Pur.move rfl) ?_
  refine JO.effR rfl rfl rfl (Eff.call rfl (rAccepts_ok (xs := xs) rfl)) ?_
  refine JO.pur rfl rfl rfl (Pur.move rfl) ?_
  refine JO.pur rfl rfl rfl (Pur.extract rfl rfl) ?_
  refine JO.pur rfl rfl rfl (Pur.extract rfl rfl) ?_
  refine JO.pur rfl rfl rfl (Pur.assign rfl) ?_
  refine JO.pur rfl rfl rfl (Pur.assign rfl) ?_
  refine JO.nil ?_
  refine J.seq rfl ?_
  refine J.region rfl ?_
  refine JO.pur rfl rfl rfl (Pur.move rfl) ?_
  refine JO.eff rfl rfl rfl (Eff.call rfl (Refusal_ok (xs := xs) rfl hb)) ?_
  rintro _ _ ⟨a7, c7, rfl, rfl⟩
  refine JO.pur rfl rfl rfl (Pur.move rfl) ?_
  refine JO.pur rfl rfl rfl (Pur.extract rfl rfl) ?_
  refine JO.pur rfl rfl rfl (Pur.extract rfl rfl) ?_
  refine JO.pur rfl rfl rfl (Pur.extract rfl rfl) ?_
  refine JO.pur rfl rfl rfl (Pur.assign rfl) ?_
  refine JO.pur rfl rfl rfl (Pur.assign rfl) ?_
  refine JO.pur rfl rfl rfl (Pur.assign rfl) ?_
  refine JO.nil ?_
  refine J.seq rfl ?_
  refine J.region rfl ?_
  refine JO.pur rfl rfl rfl (Pur.move rfl) ?_
  refine JO.eff rfl rfl rfl (Eff.call rfl (rRefusal_ok (xs := xs) rfl)) ?_
  rintro _ _ ⟨a10, c10, rfl, rfl⟩
  refine JO.pur rfl rfl rfl (Pur.move rfl) ?_
  refine JO.pur rfl rfl rfl (Pur.extract rfl rfl) ?_
  refine JO.pur rfl rfl rfl (Pur.extract rfl rfl) ?_
  refine JO.pur rfl rfl rfl (Pur.extract rfl rfl) ?_
  refine JO.pur rfl rfl rfl (Pur.assign rfl) ?_
  refine JO.pur rfl rfl rfl (Pur.assign rfl) ?_
  refine JO.pur rfl rfl rfl (Pur.assign rfl) ?_
  refine JO.nil ?_
  refine J.seq rfl ?_
  refine J.region rfl ?_
  refine JO.pur rfl rfl rfl (Pur.move rfl) ?_
  refine JO.pur rfl rfl rfl (Pur.move rfl) ?_
  refine JO.pur rfl rfl rfl (Pur.eqlB rfl rfl) ?_
  refine JO.setv (u' := .bool true) 37 rfl (congrArg Value.bool (by simp)) ?_
  refine JO.pur rfl rfl rfl (Pur.move rfl) ?_
  refine JO.pur rfl rfl rfl (Pur.move rfl) ?_
  refine JO.pur rfl rfl rfl (Pur.move rfl) ?_
  refine JO.pur rfl rfl rfl (Pur.eqlI rfl rfl) ?_
  refine JO.setv (u' := .bool true) 41 rfl (congrArg Value.bool (by simp)) ?_
  refine JO.pur rfl rfl rfl (Pur.pickT rfl rfl) ?_
  refine JO.pur rfl rfl rfl (Pur.move rfl) ?_
  refine JO.pur rfl rfl rfl (Pur.move rfl) ?_
  refine JO.pur rfl rfl rfl (Pur.move rfl) ?_
  refine JO.effR rfl rfl rfl (Eff.call rfl (bools_ok (xs := (reV xs).1) (ys := (reV xs).1) rfl rfl (Nat.le_trans (reV_len xs) (by decide)))) ?_
  refine JO.setv (u' := .bool true) 46 rfl (congrArg Value.bool (by simp)) ?_
  refine JO.pur rfl rfl rfl (Pur.pickT rfl rfl) ?_
  refine JO.pur rfl rfl rfl (Pur.move rfl) ?_
  refine JO.pur rfl rfl rfl (Pur.move rfl) ?_
  refine JO.pur rfl rfl rfl (Pur.move rfl) ?_
  refine JO.pur rfl rfl rfl (Pur.eqlB rfl rfl) ?_
  refine JO.setv (u' := .bool true) 51 rfl (congrArg Value.bool (by simp)) ?_
  refine JO.pur rfl rfl rfl (Pur.pickT rfl rfl) ?_
  refine JO.pur rfl rfl rfl (Pur.move rfl) ?_
  refine JO.pur rfl rfl rfl (Pur.move rfl) ?_
  refine JO.pur rfl rfl rfl (Pur.move rfl) ?_
  refine JO.pur rfl rfl rfl (Pur.eqlI rfl rfl) ?_
  refine JO.setv (u' := .bool true) 56 rfl (congrArg Value.bool (by simp)) ?_
  refine JO.pur rfl rfl rfl (Pur.pickT rfl rfl) ?_
  refine JO.pur rfl rfl rfl (Pur.move rfl) ?_
  refine JO.effR rfl rfl rfl (Eff.call rfl (awake_ok)) ?_
  refine JO.setv (u' := .bool true) 59 rfl (congrArg Value.bool (rfl)) ?_
  refine JO.pur rfl rfl rfl (Pur.pickT rfl rfl) ?_
  refine JO.pur rfl rfl rfl (Pur.assign rfl) ?_
  refine JO.nil ?_
  refine J.ret rfl rfl ?_
  exact ⟨_, _, ⟨rfl, rfl⟩, rfl, SubC.out⟩

theorem ownerCounts_ok {L : List Asn} {a b : Option Addr} {n cp m cq : Nat} {xs : List Deed} {cs : List Bool} [SlIn deedE L a xs] [SlIn boolE L b cs] (hn : n = xs.length) (hm : m = cs.length) {ob : Int} (hb : xs.length ≤ 3000000000000) :
    CallS Try.prog 5 [.slice a n cp, .slice b m cq, .int .i64 ob].toArray L (fun v M => v = .bool true ∧ M = L) := by
  subst hn
  subst hm
  refine CallS.ent ?_
  refine CallS.enter Try.func5 rfl rfl rfl rfl rfl ?_
  refine J.seq rfl ?_
  refine J.region rfl ?_
  refine JO.pur rfl rfl rfl (Pur.assign rfl) ?_
  refine JO.nil ?_
  refine J.seq rfl ?_
  refine J.region rfl ?_
  refine JO.pur rfl rfl rfl (Pur.move rfl) ?_
  refine JO.pur rfl rfl rfl (Pur.move rfl) ?_
  refine JO.pur rfl rfl rfl (Pur.move rfl) ?_
  refine JO.effR rfl rfl rfl (Eff.call rfl (Count_ok (xs := xs) (cs := cs) rfl rfl hb)) ?_
  refine JO.pur rfl rfl rfl (Pur.move rfl) ?_
  refine JO.pur rfl rfl rfl (Pur.extract rfl rfl) ?_
  refine JO.pur rfl rfl rfl (Pur.extract rfl rfl) ?_
  refine JO.pur rfl rfl rfl (Pur.assign rfl) ?_
  refine JO.pur rfl rfl rfl (Pur.assign rfl) ?_
  refine JO.nil ?_
  refine J.seq rfl ?_
  refine J.region rfl ?_
  refine JO.pur rfl rfl rfl (Pur.move rfl) ?_
  refine JO.pur rfl rfl rfl (Pur.move rfl) ?_
  refine JO.pur rfl rfl rfl (Pur.move rfl) ?_
  refine JO.effR rfl rfl rfl (Eff.call rfl (rCount_ok (xs := xs) (cs := cs) rfl rfl)) ?_
  refine JO.pur rfl rfl rfl (Pur.move rfl) ?_
  refine JO.pur rfl rfl rfl (Pur.extract rfl rfl) ?_
  refine JO.pur rfl rfl rfl (Pur.extract rfl rfl) ?_
  refine JO.pur rfl rfl rfl (Pur.assign rfl) ?_
  refine JO.pur rfl rfl rfl (Pur.assign rfl) ?_
  refine JO.nil ?_
  refine J.seq rfl ?_
  refine J.region rfl ?_
  refine JO.pur rfl rfl rfl (Pur.move rfl) ?_
  refine JO.pur rfl rfl rfl (Pur.move rfl) ?_
  refine JO.pur rfl rfl rfl (Pur.eqlI rfl rfl) ?_
  refine JO.setv (u' := .bool true) 27 rfl (congrArg Value.bool (by simp)) ?_
  refine JO.pur rfl rfl rfl (Pur.move rfl) ?_
  refine JO.pur rfl rfl rfl (Pur.move rfl) ?_
  refine JO.pur rfl rfl rfl (Pur.move rfl) ?_
  refine JO.pur rfl rfl rfl (Pur.eqlI rfl rfl) ?_
  refine JO.setv (u' := .bool true) 31 rfl (congrArg Value.bool (by simp)) ?_
  refine JO.pur rfl rfl rfl (Pur.pickT rfl rfl) ?_
  refine JO.pur rfl rfl rfl (Pur.move rfl) ?_
  refine JO.effR rfl rfl rfl (Eff.call rfl (awake_ok)) ?_
  refine JO.setv (u' := .bool true) 34 rfl (congrArg Value.bool (rfl)) ?_
  refine JO.pur rfl rfl rfl (Pur.pickT rfl rfl) ?_
  refine JO.pur rfl rfl rfl (Pur.assign rfl) ?_
  refine JO.nil ?_
  refine J.ret rfl rfl ?_
  exact ⟨_, _, ⟨rfl, rfl⟩, rfl, SubC.out⟩

theorem ownerFreed_ok {L : List Asn} {a b : Option Addr} {n cp m cq : Nat} {xs : List Deed} {cs : List Bool} [SlIn deedE L a xs] [SlIn boolE L b cs] (hn : n = xs.length) (hm : m = cs.length) (hb : xs.length ≤ 3000000000000) :
    CallS Try.prog 6 [.slice a n cp, .slice b m cq].toArray L (fun v M => v = .bool true ∧ M = L) := by
  subst hn
  subst hm
  refine CallS.ent ?_
  refine CallS.enter Try.func6 rfl rfl rfl rfl rfl ?_
  refine J.seq rfl ?_
  refine J.region rfl ?_
  refine JO.pur rfl rfl rfl (Pur.assign rfl) ?_
  refine JO.nil ?_
  refine J.seq rfl ?_
  refine J.region rfl ?_
  refine JO.pur rfl rfl rfl (Pur.move rfl) ?_
  refine JO.pur rfl rfl rfl (Pur.move rfl) ?_
  refine JO.eff rfl rfl rfl (Eff.call rfl (Freed_ok (xs := xs) (cs := cs) rfl rfl hb)) ?_
  rintro _ _ ⟨a5, c5, rfl, rfl⟩
  refine JO.pur rfl rfl rfl (Pur.move rfl) ?_
  refine JO.pur rfl rfl rfl (Pur.extract rfl rfl) ?_
  refine JO.pur rfl rfl rfl (Pur.extract rfl rfl) ?_
  refine JO.pur rfl rfl rfl (Pur.assign rfl) ?_
  refine JO.pur rfl rfl rfl (Pur.assign rfl) ?_
  refine JO.nil ?_
  refine J.seq rfl ?_
  refine J.region rfl ?_
  refine JO.pur rfl rfl rfl (Pur.move rfl) ?_
  refine JO.pur rfl rfl rfl (Pur.move rfl) ?_
  refine JO.eff rfl rfl rfl (Eff.call rfl (rFreed_ok (xs := xs) (cs := cs) rfl rfl)) ?_
  rintro _ _ ⟨a7, c7, rfl, rfl⟩
  refine JO.pur rfl rfl rfl (Pur.move rfl) ?_
  refine JO.pur rfl rfl rfl (Pur.extract rfl rfl) ?_
  refine JO.pur rfl rfl rfl (Pur.extract rfl rfl) ?_
  refine JO.pur rfl rfl rfl (Pur.assign rfl) ?_
  refine JO.pur rfl rfl rfl (Pur.assign rfl) ?_
  refine JO.nil ?_
  refine J.seq rfl ?_
  refine J.region rfl ?_
  refine JO.pur rfl rfl rfl (Pur.move rfl) ?_
  refine JO.pur rfl rfl rfl (Pur.move rfl) ?_
  refine JO.eff rfl rfl rfl (Eff.call rfl (Leaks_ok (xs := xs) (cs := cs) rfl rfl hb)) ?_
  rintro _ _ ⟨a9, c9, rfl, rfl⟩
  refine JO.pur rfl rfl rfl (Pur.move rfl) ?_
  refine JO.pur rfl rfl rfl (Pur.extract rfl rfl) ?_
  refine JO.pur rfl rfl rfl (Pur.extract rfl rfl) ?_
  refine JO.pur rfl rfl rfl (Pur.assign rfl) ?_
  refine JO.pur rfl rfl rfl (Pur.assign rfl) ?_
  refine JO.nil ?_
  refine J.seq rfl ?_
  refine J.region rfl ?_
  refine JO.pur rfl rfl rfl (Pur.move rfl) ?_
  refine JO.pur rfl rfl rfl (Pur.move rfl) ?_
  refine JO.eff rfl rfl rfl (Eff.call rfl (rLeaks_ok (xs := xs) (cs := cs) rfl rfl)) ?_
  rintro _ _ ⟨a11, c11, rfl, rfl⟩
  refine JO.pur rfl rfl rfl (Pur.move rfl) ?_
  refine JO.pur rfl rfl rfl (Pur.extract rfl rfl) ?_
  refine JO.pur rfl rfl rfl (Pur.extract rfl rfl) ?_
  refine JO.pur rfl rfl rfl (Pur.assign rfl) ?_
  refine JO.pur rfl rfl rfl (Pur.assign rfl) ?_
  refine JO.nil ?_
  refine J.seq rfl ?_
  refine J.region rfl ?_
  refine JO.pur rfl rfl rfl (Pur.move rfl) ?_
  refine JO.pur rfl rfl rfl (Pur.move rfl) ?_
  refine JO.effR rfl rfl rfl (Eff.call rfl (sameInts_ok (xs := (frV xs cs).1) (ys := (frV xs cs).1) rfl rfl (Nat.le_trans (frV_len xs cs) (by decide)))) ?_
  refine JO.setv (u' := .bool true) 39 rfl (congrArg Value.bool (by simp)) ?_
  refine JO.pur rfl rfl rfl (Pur.move rfl) ?_
  refine JO.pur rfl rfl rfl (Pur.move rfl) ?_
  refine JO.pur rfl rfl rfl (Pur.move rfl) ?_
  refine JO.pur rfl rfl rfl (Pur.eqlI rfl rfl) ?_
  refine JO.setv (u' := .bool true) 43 rfl (congrArg Value.bool (by simp)) ?_
  refine JO.pur rfl rfl rfl (Pur.pickT rfl rfl) ?_
  refine JO.pur rfl rfl rfl (Pur.move rfl) ?_
  refine JO.pur rfl rfl rfl (Pur.move rfl) ?_
  refine JO.pur rfl rfl rfl (Pur.move rfl) ?_
  refine JO.effR rfl rfl rfl (Eff.call rfl (sameInts_ok (xs := (lkV xs cs).1) (ys := (lkV xs cs).1) rfl rfl (Nat.le_trans (lkV_len xs cs) (by decide)))) ?_
  refine JO.setv (u' := .bool true) 48 rfl (congrArg Value.bool (by simp)) ?_
  refine JO.pur rfl rfl rfl (Pur.pickT rfl rfl) ?_
  refine JO.pur rfl rfl rfl (Pur.move rfl) ?_
  refine JO.pur rfl rfl rfl (Pur.move rfl) ?_
  refine JO.pur rfl rfl rfl (Pur.move rfl) ?_
  refine JO.pur rfl rfl rfl (Pur.eqlI rfl rfl) ?_
  refine JO.setv (u' := .bool true) 53 rfl (congrArg Value.bool (by simp)) ?_
  refine JO.pur rfl rfl rfl (Pur.pickT rfl rfl) ?_
  refine JO.pur rfl rfl rfl (Pur.move rfl) ?_
  refine JO.effR rfl rfl rfl (Eff.call rfl (awake_ok)) ?_
  refine JO.setv (u' := .bool true) 56 rfl (congrArg Value.bool (rfl)) ?_
  refine JO.pur rfl rfl rfl (Pur.pickT rfl rfl) ?_
  refine JO.pur rfl rfl rfl (Pur.assign rfl) ?_
  refine JO.nil ?_
  refine J.ret rfl rfl ?_
  exact ⟨_, _, ⟨rfl, rfl⟩, rfl, SubC.out⟩

theorem ownerWays_ok {L : List Asn} {a b : Option Addr} {n cp m cq : Nat} {xs : List Deed} {cs : List Bool} [SlIn deedE L a xs] [SlIn boolE L b cs] (hn : n = xs.length) (hm : m = cs.length) (hb : xs.length ≤ 3000000000000) :
    CallS Try.prog 7 [.slice a n cp, .slice b m cq].toArray L (fun v M => v = .bool true ∧ M = L) := by
  subst hn
  subst hm
  refine CallS.ent ?_
  refine CallS.enter Try.func7 rfl rfl rfl rfl rfl ?_
  refine J.seq rfl ?_
  refine J.region rfl ?_
  refine JO.pur rfl rfl rfl (Pur.assign rfl) ?_
  refine JO.nil ?_
  refine J.seq rfl ?_
  refine J.region rfl ?_
  refine JO.pur rfl rfl rfl (Pur.move rfl) ?_
  refine JO.effR rfl rfl rfl (Eff.call rfl (Choices_ok (xs := xs) rfl hb)) ?_
  refine JO.pur rfl rfl rfl (Pur.move rfl) ?_
  refine JO.pur rfl rfl rfl (Pur.extract rfl rfl) ?_
  refine JO.pur rfl rfl rfl (Pur.extract rfl rfl) ?_
  refine JO.pur rfl rfl rfl (Pur.assign rfl) ?_
  refine JO.pur rfl rfl rfl (Pur.assign rfl) ?_
  refine JO.nil ?_
  refine J.seq rfl ?_
  refine J.region rfl ?_
  refine JO.pur rfl rfl rfl (Pur.move rfl) ?_
  refine JO.effR rfl rfl rfl (Eff.call rfl (rChoices_ok (xs := xs) rfl)) ?_
  refine JO.pur rfl rfl rfl (Pur.move rfl) ?_
  refine JO.pur rfl rfl rfl (Pur.extract rfl rfl) ?_
  refine JO.pur rfl rfl rfl (Pur.extract rfl rfl) ?_
  refine JO.pur rfl rfl rfl (Pur.assign rfl) ?_
  refine JO.pur rfl rfl rfl (Pur.assign rfl) ?_
  refine JO.nil ?_
  refine J.seq rfl ?_
  refine J.region rfl ?_
  refine JO.pur rfl rfl rfl (Pur.move rfl) ?_
  refine JO.effR rfl rfl rfl (Eff.call rfl (Paths_ok (xs := xs) rfl hb)) ?_
  refine JO.pur rfl rfl rfl (Pur.move rfl) ?_
  refine JO.pur rfl rfl rfl (Pur.extract rfl rfl) ?_
  refine JO.pur rfl rfl rfl (Pur.extract rfl rfl) ?_
  refine JO.pur rfl rfl rfl (Pur.assign rfl) ?_
  refine JO.pur rfl rfl rfl (Pur.assign rfl) ?_
  refine JO.nil ?_
  refine J.seq rfl ?_
  refine J.region rfl ?_
  refine JO.pur rfl rfl rfl (Pur.move rfl) ?_
  refine JO.effR rfl rfl rfl (Eff.call rfl (rPaths_ok (xs := xs) rfl)) ?_
  refine JO.pur rfl rfl rfl (Pur.move rfl) ?_
  refine JO.pur rfl rfl rfl (Pur.extract rfl rfl) ?_
  refine JO.pur rfl rfl rfl (Pur.extract rfl rfl) ?_
  refine JO.pur rfl rfl rfl (Pur.assign rfl) ?_
  refine JO.pur rfl rfl rfl (Pur.assign rfl) ?_
  refine JO.nil ?_
  refine J.seq rfl ?_
  refine J.region rfl ?_
  refine JO.pur rfl rfl rfl (Pur.move rfl) ?_
  refine JO.pur rfl rfl rfl (Pur.move rfl) ?_
  refine JO.eff rfl rfl rfl (Eff.call rfl (Straight_ok (xs := xs) (cs := cs) rfl rfl hb)) ?_
  rintro _ _ ⟨a13, c13, rfl, rfl⟩
  refine JO.pur rfl rfl rfl (Pur.move rfl) ?_
  refine JO.pur rfl rfl rfl (Pur.extract rfl rfl) ?_
  refine JO.pur rfl rfl rfl (Pur.extract rfl rfl) ?_
  refine JO.pur rfl rfl rfl (Pur.assign rfl) ?_
  refine JO.pur rfl rfl rfl (Pur.assign rfl) ?_
  refine JO.nil ?_
  refine J.seq rfl ?_
  refine J.region rfl ?_
  refine JO.pur rfl rfl rfl (Pur.move rfl) ?_
  refine JO.pur rfl rfl rfl (Pur.move rfl) ?_
  refine JO.eff rfl rfl rfl (Eff.call rfl (rStraight_ok (xs := xs) (cs := cs) rfl rfl)) ?_
  rintro _ _ ⟨a15, c15, rfl, rfl⟩
  refine JO.pur rfl rfl rfl (Pur.move rfl) ?_
  refine JO.pur rfl rfl rfl (Pur.extract rfl rfl) ?_
  refine JO.pur rfl rfl rfl (Pur.extract rfl rfl) ?_
  refine JO.pur rfl rfl rfl (Pur.assign rfl) ?_
  refine JO.pur rfl rfl rfl (Pur.assign rfl) ?_
  refine JO.nil ?_
  refine J.seq rfl ?_
  refine J.seq rfl ?_
  refine J.region rfl ?_
  refine JO.pur rfl rfl rfl (Pur.move rfl) ?_
  refine JO.pur rfl rfl rfl (Pur.move rfl) ?_
  refine JO.pur rfl rfl rfl (Pur.neqI rfl rfl) ?_
  refine JO.setv (u' := .bool false) 52 rfl (congrArg Value.bool (by simp)) ?_
  refine JO.pur rfl rfl rfl (Pur.move rfl) ?_
  refine JO.pur rfl rfl rfl (Pur.move rfl) ?_
  refine JO.pur rfl rfl rfl (Pur.move rfl) ?_
  refine JO.pur rfl rfl rfl (Pur.neqI rfl rfl) ?_
  refine JO.setv (u' := .bool false) 56 rfl (congrArg Value.bool (by simp)) ?_
  refine JO.pur rfl rfl rfl (Pur.pickF rfl rfl) ?_
  refine JO.pur rfl rfl rfl (Pur.move rfl) ?_
  refine JO.pur rfl rfl rfl (Pur.move rfl) ?_
  refine JO.pur rfl rfl rfl (Pur.move rfl) ?_
  refine JO.pur rfl rfl rfl (Pur.neqI rfl rfl) ?_
  refine JO.setv (u' := .bool false) 61 rfl (congrArg Value.bool (by simp)) ?_
  refine JO.pur rfl rfl rfl (Pur.pickF rfl rfl) ?_
  refine JO.pur rfl rfl rfl (Pur.move rfl) ?_
  refine JO.pur rfl rfl rfl (Pur.move rfl) ?_
  refine JO.pur rfl rfl rfl (Pur.move rfl) ?_
  refine JO.pur rfl rfl rfl (Pur.neqI rfl rfl) ?_
  refine JO.setv (u' := .bool false) 66 rfl (congrArg Value.bool (by simp)) ?_
  refine JO.pur rfl rfl rfl (Pur.pickF rfl rfl) ?_
  refine JO.pur rfl rfl rfl (Pur.move rfl) ?_
  refine JO.pur rfl rfl rfl (Pur.move rfl) ?_
  refine JO.pur rfl rfl rfl (Pur.len rfl) ?_
  refine JO.pur rfl rfl rfl (Pur.move rfl) ?_
  refine JO.pur rfl rfl rfl (Pur.len rfl) ?_
  refine JO.pur rfl rfl rfl (Pur.neqI rfl rfl) ?_
  refine JO.setv (u' := .bool false) 73 rfl (congrArg Value.bool (by simp)) ?_
  refine JO.pur rfl rfl rfl (Pur.pickF rfl rfl) ?_
  refine JO.pur rfl rfl rfl (Pur.move rfl) ?_
  refine JO.pur rfl rfl rfl (Pur.move rfl) ?_
  refine JO.pur rfl rfl rfl (Pur.move rfl) ?_
  refine JO.pur rfl rfl rfl (Pur.neqI rfl rfl) ?_
  refine JO.setv (u' := .bool false) 78 rfl (congrArg Value.bool (by simp)) ?_
  refine JO.pur rfl rfl rfl (Pur.pickF rfl rfl) ?_
  refine JO.nil ?_
  refine J.condF rfl rfl ?_
  refine J.skip rfl ?_
  refine J.seq rfl ?_
  refine J.seq rfl ?_
  refine J.region rfl ?_
  refine JO.pur rfl rfl rfl (Pur.assign rfl) ?_
  refine JO.nil ?_
  refine J.block rfl ?_
  refine J.loopF (ι := Nat) (fun q => q ≤ (strV xs cs).1.length) (fun q => [(17, .int .i64 (q : Int))]) [(13, _), (15, _)] (fun q => sl deedE a13 c13 (strV xs cs).1 :: sl deedE a15 c15 (strV xs cs).1 :: L) (fun q => (strV xs cs).1.length - q) 0 rfl (.cons rfl rfl (.cons rfl rfl .nil)) (.cons rfl rfl .nil) (by first | exact fun _ h => h | exact SubC.out | (dsimp only; exact SubC.out)) (Nat.zero_le _) ?_
  rintro i hi ih0
  try dsimp only
  have hs60 := strV_len xs cs
  refine J.seq rfl ?_
  refine J.seq rfl ?_
  refine J.region rfl ?_
  refine JO.pur rfl rfl rfl (Pur.move rfl) ?_
  refine JO.pur rfl rfl rfl (Pur.move rfl) ?_
  refine JO.pur rfl rfl rfl (Pur.len rfl) ?_
  refine JO.pur rfl rfl rfl (Pur.lss rfl rfl) ?_
  refine JO.nil ?_
  refine J.splitB 83 rfl (fun h83 => ?_) (fun h83 => ?_)
  · try simp only [decide_eq_true_eq, decide_eq_false_iff_not, Bool.not_eq_true', Bool.not_eq_false', Bool.and_eq_true, Bool.or_eq_true, Bool.and_eq_false_iff, Bool.or_eq_false_iff, Option.isNone_some, Option.isSome_some, Option.isNone_none, Option.isSome_none, Int.not_lt, Int.not_le, beq_iff_eq, beq_eq_false_iff_ne, bne_iff_ne, ne_eq, Bool.not_not, Decidable.not_not] at h83
    have hil : i < (strV xs cs).1.length := by omega
    have hx : (strV xs cs).1[i]? = some ((strV xs cs).1[i]) := List.getElem?_eq_getElem hil
    refine J.condT rfl rfl ?_
    refine J.skip rfl ?_
    refine J.seq rfl ?_
    refine J.block rfl ?_
    refine J.seq rfl ?_
    refine J.quiet rfl Try.mixed (by kernel_rfl) ?_
    refine JQ.pur rfl rfl rfl (Pur.move rfl) ?_
    refine JQ.pur rfl rfl rfl (Pur.move rfl) ?_
    refine JQ.pur rfl rfl rfl (Pur.idx rfl rfl rfl (by first | rfl | (simp; done) | omega) rfl hil) ?_
    refine JQ.pur rfl rfl rfl (Pur.loadA rfl rfl rfl (CellsIn.el rfl hx)) ?_
    refine JQ.pur rfl rfl rfl (Pur.move rfl) ?_
    refine JQ.pur rfl rfl rfl (Pur.move rfl) ?_
    refine JQ.pur rfl rfl rfl (Pur.idx rfl rfl rfl (by first | rfl | (simp; done) | omega) rfl hil) ?_
    refine JQ.pur rfl rfl rfl (Pur.loadA rfl rfl rfl (CellsIn.el rfl hx)) ?_
    refine JQ.pur rfl rfl rfl (Pur.neqE rfl rfl) ?_
    refine JQ.setv (u' := .bool false) 94 rfl (congrArg Value.bool (by simp)) ?_
    refine JQ.nil ?_
    refine J.condF rfl rfl ?_
    refine J.skip rfl ?_
    refine J.inBlock ?_
    refine J.region rfl ?_
    refine JO.pur rfl rfl rfl (Pur.move rfl) ?_
    refine JO.pur rfl rfl rfl (Pur.add rfl rfl (wr64 (by omega))) ?_
    refine JO.pur rfl rfl rfl (Pur.assign rfl) ?_
    refine JO.nil ?_
    exact J.weaken (.cons rfl (congrArg (Value.int .i64) (by omega)) (.cons rfl rfl (.cons rfl rfl .nil))) (by first | exact fun _ h => h | exact SubC.out | (dsimp only; exact SubC.out)) (ih0 (i + 1) (by omega) (by omega))
  · try simp only [decide_eq_true_eq, decide_eq_false_iff_not, Bool.not_eq_true', Bool.not_eq_false', Bool.and_eq_true, Bool.or_eq_true, Bool.and_eq_false_iff, Bool.or_eq_false_iff, Option.isNone_some, Option.isSome_some, Option.isNone_none, Option.isSome_none, Int.not_lt, Int.not_le, beq_iff_eq, beq_eq_false_iff_ne, bne_iff_ne, ne_eq, Bool.not_not, Decidable.not_not] at h83
    refine J.condF rfl rfl ?_
    refine J.exit rfl rfl ?_
    refine J.seq rfl ?_
    refine J.region rfl ?_
    refine JO.effR rfl rfl rfl (Eff.call rfl (awake_ok)) ?_
    refine JO.pur rfl rfl rfl (Pur.assign rfl) ?_
    refine JO.nil ?_
    refine J.ret rfl rfl ?_
    exact ⟨_, _, ⟨rfl, rfl⟩, rfl, SubC.out⟩

end Go.Proofs.Ythdaopmfgmojnaa

/- The text OSafe. -/
/-!
  What is accepted runs to its end by any choices; what is freed and what is left; the program without choices.
-/
set_option linter.unusedVariables false
set_option linter.unusedSimpArgs false
namespace Go.Proofs.Ythdaopmfgmojnaa
open Go Go.KK Ow
/-! Every list of choices goes the way of a leaf. -/
theorem leaf_of {l : List Deed} {full : List Bool} (hf : full.length = mt l full) (h8 : full.length ≤ 8) : ∀ (f k : Nat), f + k = 8 → k ≤ full.length → full ∈ T l f (full.take k)
  | 0, k, hk, hl => by
    have : full.take k = full := List.take_of_length_le (by omega)
    rw [this, T]; exact List.mem_singleton.2 rfl
  | f + 1, k, hk, hl => by
    have htl : (full.take k).length = k := by simp; omega
    have hag : ∀ j, j < k → (full.take k).getD j true = full.getD j true := fun j hj => by simp [List.getD_eq_getElem?_getD, List.getElem?_take, hj]
    rw [T]
    split
    · rename_i hm
      rw [htl] at hm
      have h1 : wayV l full = wayV l (full.take k) := way_agree (fun j hj => hag j (by omega))
      have h2 : mt l full = mt l (full.take k) := by unfold mt; rw [h1]
      have : full.take k = full := List.take_of_length_le (by omega)
      rw [this]; exact List.mem_singleton.2 rfl
    · rename_i hm
      rw [htl] at hm
      have h1 : k < mt l full := mt_more (c := full.take k) (d := full) (k := k) hag (by omega)
      have hk2 : k < full.length := by omega
      have e : full.take (k + 1) = full.take k ++ [full[k]] := by rw [List.take_add_one, List.getElem?_eq_getElem hk2]; rfl
      have ih := leaf_of hf h8 f (k + 1) (by omega) (by omega)
      rw [e] at ih
      cases hb : full[k] with
      | true => rw [hb] at ih; exact List.mem_append_left _ ih
      | false => rw [hb] at ih; exact List.mem_append_right _ ih
theorem leaf_way {l : List Deed} (hv : validB l = true) (cs : List Bool) : ∃ c ∈ Fut l [], wayV l c = wayV l cs := by
  let full := (List.range (mt l cs)).map (fun j => cs.getD j true)
  have hlen : full.length = mt l cs := by simp [full]
  have hw : wayV l full = wayV l cs := way_agree (fun j hj => by
    show cs.getD j true = ((List.range (mt l cs)).map (fun j => cs.getD j true)).getD j true
    rw [List.getD_eq_getElem?_getD (l := (List.range (mt l cs)).map _), List.getElem?_map, List.getElem?_range hj]; rfl)
  have hf : full.length = mt l full := by rw [hlen]; unfold mt; rw [hw]
  refine ⟨full, ?_, hw⟩
  rw [Fut_nil]
  have h8 := mt_le hv full
  have := leaf_of (l := l) (full := full) hf (by omega) 8 0 rfl (Nat.zero_le _)
  rw [List.take_zero] at this
  exact this
theorem runV_way {xs : List Deed} {c d : List Bool} (h : wayV xs c = wayV xs d) : runV xs c = runV xs d := by unfold runV; rw [h]
theorem foldU_none (xs : List Deed) : ∀ (l : List (List Bool)), foldU (rf xs) l none = none ↔ ∀ c ∈ l, (runV xs c).2.1 = sNone
  | [] => by simp [foldU]
  | d :: r => by
    by_cases hr : (runV xs d).2.1 = sNone
    · rw [foldU_yes (by rw [rf_yes hr]), rf_yes hr, foldU_none xs r]
      constructor
      · intro h c hc
        rcases List.mem_cons.1 hc with rfl | hc
        · exact hr
        · exact h c hc
      · exact fun h c hc => h c (by simp [hc])
    · rw [foldU_no (by rw [rf_no hr]; simp), rf_no hr]
      constructor
      · intro h; cases h
      · exact fun h => absurd (h d (by simp)) hr
theorem acc_all {xs : List Deed} (hv : validB xs = true) : (acV xs).1 = true ↔ ∀ cs, (runV xs cs).2.1 = sNone := by
  unfold acV
  rw [if_pos hv]
  have h1 := foldU_none xs (Fut xs [])
  constructor
  · intro h cs
    have h2 : rfV xs = none := by cases hr : rfV xs with | none => rfl | some c => rw [hr] at h; cases h
    obtain ⟨c, hc, hw⟩ := leaf_way hv cs
    rw [← runV_way hw]
    exact h1.1 h2 c hc
  · intro h
    have h2 : rfV xs = none := h1.2 (fun c _ => h c)
    rw [h2]; rfl

/-! What a run makes. -/
theorem drop_kind (s : Sx) (i : Nat) : (dropS s i).kind = s.kind := by
  unfold dropS
  dsimp only
  split
  · rfl
  · split
    · split <;> rfl
    · rfl
theorem dropK_kind (s : Sx) : ∀ k, (dropK s k).kind = s.kind
  | 0 => rfl
  | k + 1 => by show (dropS (dropK s k) k).kind = _; rw [drop_kind, dropK_kind s k]
theorem do_kind (s : Sx) (d : Deed) : (doS s d).kind = s.kind ++ (if makesB d.act = true then [mannerOf d.act] else []) := by
  unfold doS
  split
  · rfl
  · rw [List.append_nil]
    split
    · rfl
    · split
      · dsimp only; split <;> rfl
      · split
        · rfl
        · split
          · rfl
          · split
            · exact drop_kind _ _
            · rfl
def mks (ds : List Deed) : List Deed := ds.filter (fun d => makesB d.act)
def rawsOf (ds : List Deed) : List Bool := (mks ds).map (fun d => decide (d.act = sRaw))
theorem rfold_kind {xs : List Deed} : ∀ {l : List Nat} {σ : Sx}, (rfold xs l σ).2.1 = sNone → (rfold xs l σ).1.kind = σ.kind ++ (mks (l.map (dd xs))).map (fun d => mannerOf d.act)
  | [], σ, _ => by simp [rfold, mks]
  | i :: r, σ, h => by
    by_cases hw : wrongS σ (dd xs i) = sNone
    · rw [rfold_yes hw] at h ⊢
      rw [rfold_kind h, do_kind]
      unfold mks
      rw [List.map_cons, List.filter_cons]
      split <;> simp
    · rw [rfold_no hw] at h; exact absurd h hw
theorem manner_raw {a : Str} (h : makesB a = true) : mannerOf a = 4 ↔ a = sRaw := by
  unfold makesB at h
  simp only [Bool.or_eq_true, decide_eq_true_eq] at h
  rcases h with (h | h) | h <;> subst h <;> decide

/-! All variables dropped. -/
theorem drop_v8 {s : Sx} (h : s.vars.length = 8) (i : Nat) : (dropS s i).vars = s.vars.set i ⟨0, 0⟩ := by
  unfold dropS
  dsimp only
  split
  · rfl
  · split
    · split <;> rfl
    · rfl
theorem dropK_vars {s : Sx} (h : s.vars.length = 8) : ∀ k, (dropK s k).vars.length = 8 ∧ ∀ i, i < k → k ≤ 8 → vr (dropK s k) i = ⟨0, 0⟩
  | 0 => ⟨h, fun i hi => by omega⟩
  | k + 1 => by
    obtain ⟨h1, h2⟩ := dropK_vars h k
    have e : (dropK s (k + 1)).vars = (dropK s k).vars.set k ⟨0, 0⟩ := drop_v8 h1 k
    refine ⟨by rw [e, List.length_set, h1], fun i hi hk => ?_⟩
    unfold vr
    rw [e, getD_set (by omega)]
    split
    · rfl
    · exact h2 i (by omega) (by omega)
theorem end_empty {xs : List Deed} {cs : List Bool} (hv : validB xs = true) (hr : (runV xs cs).2.1 = sNone) (i : Nat) : vr (endV xs cs) i = ⟨0, 0⟩ := by
  have g := runV_good (cs := cs) (valid_open hv)
  have h := dropK_vars g.v8 8
  unfold endV; rw [if_pos hr]
  rcases Nat.lt_or_ge i 8 with hi | hi
  · exact h.2 i hi (Nat.le_refl _)
  · exact vr_out (by rw [h.1]; exact hi)
/-- What is alive when all is over is raw. -/
theorem end_raw {xs : List Deed} {cs : List Bool} (hv : validB xs = true) (hr : (runV xs cs).2.1 = sNone) {o : Nat} (h2 : o < (endV xs cs).alive.length) (ha : (endV xs cs).alive.getD o false = true) : (endV xs cs).kind.getD o 0 = 4 := by
  have g := endV_good (cs := cs) (valid_open hv)
  have he := end_empty (cs := cs) hv hr
  have h1 : 1 ≤ o := by
    rcases Nat.eq_zero_or_pos o with h | h
    · subst h; have := g.a0; rw [this] at ha; cases ha
    · exact h
  rcases g.kinds o h1 h2 with h | h | h
  · obtain ⟨i, hi⟩ := g.aown o h2 h ha
    rw [he i] at hi; cases hi
  · obtain ⟨i, hi⟩ := sharers_ex ((g.ashr o h2 h).1 ha)
    rw [he i] at hi; cases hi
  · exact h
theorem end_kind {xs : List Deed} {cs : List Bool} (hv : validB xs = true) (hr : (runV xs cs).2.1 = sNone) : (endV xs cs).kind = 0 :: (mks (strV xs cs).1).map (fun d => mannerOf d.act) := by
  unfold endV; rw [if_pos hr, dropK_kind]
  have h := rfold_kind (xs := xs) (l := (wayV xs cs).steps) (σ := Ow.start) hr
  have e : (strV xs cs).1 = (wayV xs cs).steps.map (dd xs) := by unfold strV; rw [if_pos hv]
  rw [e]; exact h
theorem end_len {xs : List Deed} {cs : List Bool} (hv : validB xs = true) (hr : (runV xs cs).2.1 = sNone) : (endV xs cs).alive.length = (rawsOf (strV xs cs).1).length + 1 := by
  have g := endV_good (cs := cs) (valid_open hv)
  rw [← g.kl, end_kind hv hr]; simp [rawsOf]
theorem raws_get {xs : List Deed} {cs : List Bool} (hv : validB xs = true) (hr : (runV xs cs).2.1 = sNone) {o : Nat} (ho : o < (rawsOf (strV xs cs).1).length) : (rawsOf (strV xs cs).1)[o]? = some (decide ((endV xs cs).kind.getD (o + 1) 0 = 4)) := by
  have hl : o < (mks (strV xs cs).1).length := by simpa [rawsOf] using ho
  rw [end_kind hv hr]
  unfold rawsOf
  rw [List.getElem?_map, List.getElem?_eq_getElem hl]
  simp only [Option.map_some, List.getD_cons_succ, List.getD_eq_getElem?_getD, List.getElem?_map, List.getElem?_eq_getElem hl, Option.getD_some]
  congr 1
  have hm : makesB (mks (strV xs cs).1)[o].act = true := by
    have := List.getElem_mem hl
    exact (List.mem_filter.1 this).2
  rw [Bool.eq_iff_iff]; simp [manner_raw hm, List.getElem?_eq_getElem hl]

/-! Freed and left. -/
theorem lk_mem {al : List Bool} {x : Int} : ∀ {n : Nat}, x ∈ lk al n ↔ ∃ o, o < n ∧ al.getD o false = true ∧ x = (o : Int)
  | 0 => by simp [lk]
  | n + 1 => by
    rw [lk, List.mem_append, lk_mem (n := n)]
    constructor
    · rintro (⟨o, h1, h2, h3⟩ | h)
      · exact ⟨o, by omega, h2, h3⟩
      · split at h
        · rename_i ha; simp at h; exact ⟨n, by omega, ha, h⟩
        · cases h
    · rintro ⟨o, h1, h2, h3⟩
      rcases Nat.lt_or_ge o n with h | h
      · exact .inl ⟨o, h, h2, h3⟩
      · have : o = n := by omega
        subst this
        right; rw [if_pos h2, h3]; simp
/-- How many of the first n (from 1 on) are dead, and how many of the first n + 1 live. -/
theorem dead_lk {al : List Bool} (h0 : al.getD 0 false = false) : ∀ n, ((List.range' 1 n).filter (fun o => !al.getD o false)).length + (lk al (n + 1)).length = n
  | 0 => by rw [lk_no h0]; simp [lk]
  | n + 1 => by
    have ih := dead_lk h0 n
    rw [List.range'_concat, List.filter_append, List.length_append]
    rw [show 1 + 1 * n = n + 1 by omega]
    cases ha : al.getD (n + 1) false with
    | true => rw [lk_yes ha, List.length_append, List.filter_cons, ha]; simp only [Bool.not_true, Bool.false_eq_true, if_false, List.filter_nil, List.length_nil, List.length_singleton]; omega
    | false => rw [lk_no ha, List.filter_cons, ha]; simp only [Bool.not_false, if_true, List.filter_nil, List.length_nil, List.length_singleton]; omega
theorem freed_dead {s : Sx} (g : Ow.Good s) : s.freed.length = ((List.range' 1 (s.alive.length - 1)).filter (fun o => !s.alive.getD o false)).length := by
  have hp : s.freed.Perm ((List.range' 1 (s.alive.length - 1)).filter (fun o => !s.alive.getD o false)) := by
    refine (List.perm_ext_iff_of_nodup g.fnd (List.Nodup.sublist (List.filter_sublist) List.nodup_range')).2 fun o => ?_
    rw [g.fmem, List.mem_filter, List.mem_range'_1]
    have := g.n1
    constructor
    · rintro ⟨h1, h2, h3⟩; exact ⟨⟨h1, by omega⟩, by rw [h3]; rfl⟩
    · rintro ⟨⟨h1, h2⟩, h3⟩; exact ⟨h1, by omega, by simpa using h3⟩
  exact hp.length_eq
/-- How often the objects are among the first k freed. -/
def tms (n : Nat) (fr : List Nat) (k : Nat) : List Int := (List.range n).map (fun o => ((fr.take k).count (o + 1) : Int))
theorem tms_len (n : Nat) (fr : List Nat) (k : Nat) : (tms n fr k).length = n := by simp [tms]
theorem tms_get {n : Nat} {fr : List Nat} {k o : Nat} (h : o < n) : (tms n fr k)[o]? = some ((fr.take k).count (o + 1) : Int) := by simp [tms, h]
theorem tms_zero (n : Nat) (fr : List Nat) : tms n fr 0 = List.replicate n 0 := by
  apply List.ext_getElem?
  intro i
  rcases Nat.lt_or_ge i n with h | h
  · rw [tms_get h]; simp [h]
  · rw [List.getElem?_eq_none (by rw [tms_len]; omega), List.getElem?_eq_none (by simp; omega)]
theorem tms_succ {n : Nat} {fr : List Nat} {k o : Nat} (hk : k < fr.length) (ho : fr[k] = o + 1) (hn : o < n) : (tms n fr k).set o (((fr.take k).count (o + 1) : Int) + 1) = tms n fr (k + 1) := by
  apply List.ext_getElem?
  intro i
  rw [List.getElem?_set, tms_len]
  rcases Nat.lt_or_ge i n with h | h
  · rw [tms_get h, tms_get h, List.take_add_one, List.getElem?_eq_getElem hk, ho, Option.toList_some, List.count_append, List.count_singleton]
    by_cases e : o = i
    · subst e; simp [h]
    · rw [if_neg e, if_neg (by simp; omega)]; simp
  · rw [List.getElem?_eq_none (by rw [tms_len]; omega), List.getElem?_eq_none (by rw [tms_len]; omega)]
    split
    · omega
    · rfl
end Go.Proofs.Ythdaopmfgmojnaa

/- The text OStraightP. -/
/-!
  A run as a program without choices.
-/
set_option linter.unusedVariables false
set_option linter.unusedSimpArgs false
namespace Go.Proofs.Ythdaopmfgmojnaa
open Go Go.KK Ow
theorem plain_vf {ds : List Deed} (h : ∀ d ∈ ds, PlainD d) : ∀ {n : Nat}, n ≤ ds.length → vfold ds n = some []
  | 0, _ => rfl
  | n + 1, hn => by
    have hp := h (ds[n]) (List.getElem_mem (by omega))
    rw [vfold_succ (by omega), plain_vf h (n := n) (by omega)]
    have e : dd ds n = ds[n] := (dd_el (by omega)).symm
    dsimp only
    unfold vstep
    rw [e, hp.ok, if_neg (by simp), if_neg hp.e1, if_neg hp.e2, if_neg hp.e3]
theorem plain_ei {ds : List Deed} (h : ∀ d ∈ ds, PlainD d) : eithers ds = 0 := by
  unfold eithers
  rw [List.length_eq_zero_iff, List.filter_eq_nil_iff]
  intro d hd; simp [(h d hd).e1]
theorem plain_valid {ds : List Deed} (h : ∀ d ∈ ds, PlainD d) (h60 : ds.length ≤ 60) : validB ds = true := by
  unfold validB
  rw [plain_vf h (Nat.le_refl _), plain_ei h]
  simp [h60]
theorem plain_wf {ds : List Deed} (c : List Bool) (h : ∀ d ∈ ds, PlainD d) : ∀ {n : Nat}, n ≤ ds.length → wfold ds c n = ⟨[], 0, List.range n, []⟩
  | 0, _ => rfl
  | n + 1, hn => by
    have hp := h (ds[n]) (List.getElem_mem (by omega))
    have e : dd ds n = ds[n] := (dd_el (by omega)).symm
    rw [wfold_succ (by omega), plain_wf c h (n := n) (by omega)]
    unfold wstep
    rw [e, if_neg hp.e1, if_neg hp.e2, if_neg hp.e3, if_pos (by rfl), List.range_succ]
section
variable {xs : List Deed} {S : List Nat} {σ : Sx}
theorem rfold_map : ∀ (m k : Nat) (σ : Sx), k + m = S.length →
    (rfold (S.map (dd xs)) (List.range' k m) σ).1 = (rfold xs (S.drop k) σ).1 ∧ (rfold (S.map (dd xs)) (List.range' k m) σ).2.1 = (rfold xs (S.drop k) σ).2.1 ∧
    (((rfold xs (S.drop k) σ).2.2 = -1 ∧ (rfold (S.map (dd xs)) (List.range' k m) σ).2.2 = -1) ∨ ∃ i j : Nat, S[j]? = some i ∧ (rfold xs (S.drop k) σ).2.2 = (i : Int) ∧ (rfold (S.map (dd xs)) (List.range' k m) σ).2.2 = (j : Int))
  | 0, k, σ, h => by rw [List.drop_of_length_le (by omega)]; exact ⟨rfl, rfl, .inl ⟨rfl, rfl⟩⟩
  | m + 1, k, σ, h => by
    have hk : k < S.length := by omega
    have e : dd (S.map (dd xs)) k = dd xs S[k] := by
      rw [← dd_el (l := S.map (dd xs)) (i := k) (by simp; omega)]; simp
    rw [List.drop_eq_getElem_cons hk, List.range'_succ]
    by_cases hw : wrongS σ (dd xs S[k]) = sNone
    · rw [rfold_yes hw, rfold_yes (by rw [e]; exact hw), e]
      exact rfold_map m (k + 1) _ (by omega)
    · rw [rfold_no hw, rfold_no (by rw [e]; exact hw), e]
      exact ⟨rfl, rfl, .inr ⟨S[k], k, List.getElem?_eq_getElem hk, rfl, rfl⟩⟩
end
theorem str_eq' {xs : List Deed} {cs : List Bool} (hv : validB xs = true) : (strV xs cs).1 = (wayV xs cs).steps.map (dd xs) := by unfold strV; rw [if_pos hv]
theorem str_plain {xs : List Deed} {cs : List Bool} (hv : validB xs = true) : ∀ d ∈ (strV xs cs).1, PlainD d := by
  rw [str_eq' hv]
  intro d hd
  obtain ⟨i, hi, rfl⟩ := List.mem_map.1 hd
  exact (way_plain (valid_open hv) (Nat.le_refl _) i hi).2
theorem str_valid {xs : List Deed} {cs : List Bool} (hv : validB xs = true) : validB (strV xs cs).1 = true := plain_valid (str_plain hv) (strV_len xs cs)
theorem str_run {xs : List Deed} {cs : List Bool} (c : List Bool) (hv : validB xs = true) : (runV (strV xs cs).1 c).1 = (runV xs cs).1 ∧ (runV (strV xs cs).1 c).2.1 = (runV xs cs).2.1 ∧
    (((runV xs cs).2.2 = -1 ∧ (runV (strV xs cs).1 c).2.2 = -1) ∨ ∃ i j : Nat, i < xs.length ∧ (strV xs cs).1[j]? = some (dd xs i) ∧ (runV xs cs).2.2 = (i : Int) ∧ (runV (strV xs cs).1 c).2.2 = (j : Int)) := by
  have hw : (wayV (strV xs cs).1 c).steps = List.range' 0 (strV xs cs).1.length := by
    unfold wayV
    rw [plain_wf c (str_plain hv) (Nat.le_refl _)]
    exact List.range_eq_range'
  have hl : (strV xs cs).1.length = (wayV xs cs).steps.length := by rw [str_eq' hv, List.length_map]
  have h := rfold_map (xs := xs) (S := (wayV xs cs).steps) (strV xs cs).1.length 0 Ow.start (by omega)
  unfold runV
  rw [hw]
  rw [List.drop_zero] at h
  rw [← str_eq' hv] at h
  refine ⟨h.1, h.2.1, ?_⟩
  rcases h.2.2 with h3 | ⟨i, j, h3, h4, h5⟩
  · exact .inl h3
  · refine .inr ⟨i, j, (way_plain (valid_open hv) (Nat.le_refl _) i (List.mem_of_getElem? h3)).1, ?_, h4, h5⟩
    rw [str_eq' hv, List.getElem?_map, h3]; rfl
theorem str_end {xs : List Deed} {cs : List Bool} (hv : validB xs = true) : endV (strV xs cs).1 [] = endV xs cs := by
  obtain ⟨h1, h2, _⟩ := str_run (cs := cs) [] hv
  unfold endV; rw [h1, h2]
theorem str_fr {xs : List Deed} {cs : List Bool} (hv : validB xs = true) : frV (strV xs cs).1 [] = frV xs cs := by
  unfold frV; rw [if_pos hv, if_pos (str_valid hv), str_end hv]
theorem fr_nodup (xs : List Deed) (cs : List Bool) : (frV xs cs).1.Nodup := by
  unfold frV
  split
  · rename_i hv
    have g := endV_good (cs := cs) (valid_open hv)
    show (fz (endV xs cs).freed).Nodup
    unfold fz
    exact List.pairwise_map.2 (List.Pairwise.imp (fun h e => h (by have e2 : ((_ : Nat) : Int) = ((_ : Nat) : Int) := e; omega)) g.fnd)
  · exact List.nodup_nil
theorem st_valid {xs : List Deed} {cs : List Bool} (h : (strV xs cs).2 = 0) : validB xs = true := by
  unfold strV at h
  split at h
  · assumption
  · cases h
end Go.Proofs.Ythdaopmfgmojnaa

/- The text OOwnersP. -/
/-!
  All masks of choices; what is refused is refused by the choices that are named.
-/
set_option linter.unusedVariables false
set_option linter.unusedSimpArgs false
namespace Go.Proofs.Ythdaopmfgmojnaa
open Go Go.KK Ow
def cm (n m : Nat) : List Bool := (List.range n).map (fun i => decide (((m / 2 ^ i % 2 : Nat) : Int) = 0))
theorem cm_len (n m : Nat) : (cm n m).length = n := by simp [cm]
theorem cm_succ (n m : Nat) : cm (n + 1) m = cm n m ++ [decide (((m / 2 ^ n % 2 : Nat) : Int) = 0)] := by simp [cm, List.range_succ]
def cenc : List Bool → Nat
  | [] => 0
  | b :: r => (if b = true then 0 else 1) + 2 * cenc r
theorem cenc_lt : ∀ (c : List Bool), cenc c < 2 ^ c.length
  | [] => by simp [cenc]
  | b :: r => by
    have := cenc_lt r
    rw [cenc, List.length_cons, Nat.pow_succ]
    split <;> omega
theorem cenc_bit : ∀ (c : List Bool) (j : Nat), j < c.length → (cenc c / 2 ^ j % 2 = 0 ↔ c.getD j true = true)
  | [], j, h => by simp at h
  | b :: r, 0, _ => by
    rw [cenc, Nat.pow_zero, Nat.div_one]
    cases b <;> simp
  | b :: r, j + 1, h => by
    rw [cenc, Nat.pow_succ, Nat.mul_comm (2 ^ j) 2, ← Nat.div_div_eq_div_mul]
    rw [show ((if b = true then 0 else 1) + 2 * cenc r) / 2 = cenc r by split <;> omega]
    rw [cenc_bit r j (by simpa using h)]
    simp
theorem cm_cover {n : Nat} {c : List Bool} (h : c.length ≤ n) : cenc c < 2 ^ n ∧ ∀ j, j < c.length → (cm n (cenc c)).getD j true = c.getD j true := by
  refine ⟨Nat.lt_of_lt_of_le (cenc_lt c) (Nat.pow_le_pow_right (by omega) h), fun j hj => ?_⟩
  have h1 := cenc_bit c j hj
  unfold cm
  rw [List.getD_eq_getElem?_getD, List.getElem?_map, List.getElem?_range (by omega)]
  simp only [Option.map_some, Option.getD_some]
  rw [Bool.eq_iff_iff, decide_eq_true_eq, ← h1]; omega
theorem mt_ei {l : List Deed} (c : List Bool) : mt l c ≤ eithers l := by
  have h1 := wmet_le (l := l) (c := c) (n := l.length) (Nat.le_refl _)
  rw [List.take_length] at h1
  exact h1
def allB (xs : List Deed) (n k : Nat) : Bool := (List.range k).all (fun j => decide ((runV xs (cm n j)).2.1 = sNone))
theorem allB_succ (xs : List Deed) (n k : Nat) : allB xs n (k + 1) = (allB xs n k && decide ((runV xs (cm n k)).2.1 = sNone)) := by simp [allB, List.range_succ]
theorem acc_masks {xs : List Deed} (hv : validB xs = true) : (acV xs).1 = allB xs (eithers xs) (2 ^ eithers xs) := by
  rw [Bool.eq_iff_iff, acc_all hv]
  unfold allB
  rw [List.all_eq_true]
  constructor
  · intro h j _; simpa using h (cm (eithers xs) j)
  · intro h cs
    obtain ⟨h1, h2⟩ := cm_cover (n := eithers xs) (c := (List.range (mt xs cs)).map (fun j => cs.getD j true)) (by simp; exact mt_ei cs)
    have hw : wayV xs (cm (eithers xs) (cenc ((List.range (mt xs cs)).map (fun j => cs.getD j true)))) = wayV xs cs := way_agree (fun j hj => by
      rw [h2 j (by simpa using hj), List.getD_eq_getElem?_getD (l := (List.range (mt xs cs)).map _), List.getElem?_map, List.getElem?_range hj]; rfl)
    rw [← runV_way hw]
    simpa using h _ (List.mem_range.2 h1)

theorem rfold_app {xs : List Deed} : ∀ (A B : List Nat) (σ : Sx), rfold xs (A ++ B) σ = if (rfold xs A σ).2.1 = sNone then rfold xs B (rfold xs A σ).1 else rfold xs A σ
  | [], B, σ => by simp [rfold]
  | i :: A, B, σ => by
    rw [List.cons_append]
    by_cases hw : wrongS σ (dd xs i) = sNone
    · rw [rfold_yes hw, rfold_yes hw, rfold_app A B]
    · rw [rfold_no hw, rfold_no hw]; exact (if_neg hw).symm
theorem at_way {xs : List Deed} {c : List Bool} {p : Nat} (hv : validB xs = true) (hp : p ∈ (wayV xs c).steps) : (wfold xs c (p + 1)).steps = (wfold xs c p).steps ++ [p] ∧ (wfold xs c (p + 1)).met = (wfold xs c p).met := by
  obtain ⟨hl, hpl⟩ := way_plain (valid_open hv) (Nat.le_refl _) p hp
  have hin : p ∈ (wfold xs c (p + 1)).steps := by
    obtain ⟨s, h1, h2⟩ := wf_steps (l := xs) (c := c) (q := p + 1) (n := xs.length) (by omega)
    have : p ∈ (wfold xs c xs.length).steps := hp
    rw [h1] at this
    rcases List.mem_append.1 this with h3 | h3
    · exact h3
    · have := h2 p h3; omega
  rw [wfold_succ hl] at hin ⊢
  unfold wstep at hin ⊢
  rw [if_neg hpl.e1, if_neg hpl.e2, if_neg hpl.e3] at hin ⊢
  split at hin
  · rename_i ha; rw [if_pos ha]; exact ⟨rfl, rfl⟩
  · have := steps_lt hin; omega
theorem named {xs : List Deed} {c : List Bool} (hv : validB xs = true) (hr : ¬ (runV xs c).2.1 = sNone) : ¬ (runV xs (c.take (lead (wayV xs c).met (runV xs c).2.2))).2.1 = sNone := by
  obtain ⟨p, hp, hpe⟩ := rfold_at (xs := xs) (l := (wayV xs c).steps) (σ := Ow.start) hr
  have hpe2 : (runV xs c).2.2 = (p : Int) := hpe
  obtain ⟨hl, hpl⟩ := way_plain (valid_open hv) (Nat.le_refl _) p hp
  obtain ⟨hs, hm⟩ := at_way hv hp
  rw [hpe2, lead_met (by omega)]
  have hag : wfold xs (c.take (wfold xs c p).met.length) (p + 1) = wfold xs c (p + 1) := wf_agree (fun j hj => by
    rw [hm] at hj
    simp [List.getD_eq_getElem?_getD, List.getElem?_take, hj])
  obtain ⟨s1, h1, h2⟩ := wf_steps (l := xs) (c := c) (q := p + 1) (n := xs.length) (by omega)
  obtain ⟨s2, h3, h4⟩ := wf_steps (l := xs) (c := c.take (wfold xs c p).met.length) (q := p + 1) (n := xs.length) (by omega)
  have e1 : (wayV xs c).steps = (wfold xs c p).steps ++ (p :: s1) := by unfold wayV; rw [h1, hs]; simp
  have e2 : (wayV xs (c.take (wfold xs c p).met.length)).steps = (wfold xs c p).steps ++ (p :: s2) := by unfold wayV; rw [h3, hag, hs]; simp
  unfold runV at hr hpe2 ⊢
  rw [e1, rfold_app] at hr hpe2
  rw [e2, rfold_app]
  by_cases hA : (rfold xs (wfold xs c p).steps Ow.start).2.1 = sNone
  · rw [if_pos hA] at hr hpe2 ⊢
    by_cases hw : wrongS (rfold xs (wfold xs c p).steps Ow.start).1 (dd xs p) = sNone
    · rw [rfold_yes hw] at hr hpe2
      obtain ⟨j, hj, hje⟩ := rfold_at hr
      have := h2 j hj
      rw [hje] at hpe2; omega
    · rw [rfold_no hw]; exact hw
  · rw [if_neg hA]; exact hA
theorem rf_some (xs : List Deed) : ∀ (l : List (List Bool)) (i : Option (List Bool)) (c' : List Bool), foldU (rf xs) l i = some c' → i = some c' ∨ ∃ c ∈ l, ¬ (runV xs c).2.1 = sNone ∧ c' = c.take (lead (wayV xs c).met (runV xs c).2.2)
  | [], i, c', h => .inl h
  | d :: r, i, c', h => by
    by_cases hr : (runV xs d).2.1 = sNone
    · rw [foldU_yes (by rw [rf_yes hr]), rf_yes hr] at h
      rcases rf_some xs r i c' h with h | ⟨c, h1, h2⟩
      · exact .inl h
      · exact .inr ⟨c, by simp [h1], h2⟩
    · rw [foldU_no (by rw [rf_no hr]; simp), rf_no hr] at h
      exact .inr ⟨d, by simp, hr, by simpa using h.symm⟩
theorem ref_named {xs : List Deed} (hv : validB xs = true) {c' : List Bool} (h : rfV xs = some c') : ¬ (runV xs c').2.1 = sNone ∧ c'.length ≤ eithers xs := by
  rcases rf_some xs (Fut xs []) none c' h with h | ⟨c, h1, h2, rfl⟩
  · cases h
  · refine ⟨named hv h2, ?_⟩
    have h3 := lead_le (wayV xs c).met (runV xs c).2.2
    have h4 : (wayV xs c).met.length ≤ eithers xs := mt_ei c
    rw [List.length_take]; omega
theorem ch_ac (xs : List Deed) : (chV xs).2 = (acV xs).2 ∧ (acV xs).2 = (reV xs).2.2 := by unfold chV acV reV; split <;> exact ⟨rfl, rfl⟩
end Go.Proofs.Ythdaopmfgmojnaa
