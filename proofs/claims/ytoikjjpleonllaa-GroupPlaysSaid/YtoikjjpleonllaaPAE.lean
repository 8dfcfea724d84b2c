/-
  A part of the proof of the claim that this folder bears.
-/
import Derived.Test.YtoikjjpleonllaaPAD
import Derived.Test.YtoikjjpleonllaaKC
import Derived.Test.YtoikjjpleonllaaPAB
/- The text G8a. -/
set_option linter.unusedVariables false
set_option linter.unusedSimpArgs false
set_option maxRecDepth 10000
namespace Go.Proofs.Ytoikjjpleonllaa
open Go Go.KK Gr

theorem rank_ok {L : List Asn} {n root p : Nat} (hn : n ≤ 8) (hr : root < n) (hp : p < n) :
    CallS Try.prog 83 [.int .i64 (n : Int), .int .i64 (root : Int), .int .i64 (p : Int)].toArray L (fun v M => v = .int .i64 ((rk n root p : Nat) : Int) ∧ M = L) := by
  refine CallS.ent ?_
  refine CallS.enter Try.func83 rfl rfl rfl rfl rfl ?_
  refine J.seq rfl ?_
  refine J.region rfl ?_
  refine JO.pur rfl rfl rfl (Pur.assign rfl) ?_
  refine JO.nil ?_
  refine J.seq rfl ?_
  refine J.region rfl ?_
  refine JO.pur rfl rfl rfl (Pur.move rfl) ?_
  refine JO.pur rfl rfl rfl (Pur.move rfl) ?_
  refine JO.pur rfl rfl rfl (Pur.sub rfl rfl (wr64 (by omega))) ?_
  refine JO.pur rfl rfl rfl (Pur.move rfl) ?_
  refine JO.pur rfl rfl rfl (Pur.add rfl rfl (wr64 (by omega))) ?_
  refine JO.setv (u' := .int .i64 ((p + n - root : Nat) : Int)) 11 rfl (congrArg (Value.int .i64) (by omega)) ?_
  refine JO.pur rfl rfl rfl (Pur.move rfl) ?_
  refine JO.pur rfl rfl rfl (Pur.rem rfl rfl (by omega)) ?_
  refine JO.pur rfl rfl rfl (Pur.assign rfl) ?_
  refine JO.nil ?_
  refine J.ret rfl rfl ?_
  refine ⟨_, _, ⟨rfl, rfl⟩, congrArg (Value.int .i64) (tmodN _ _), SubC.out⟩

theorem rrank_ok {L : List Asn} {n root p : Nat} (hn : n ≤ 8) (hr : root < n) (hp : p < n) :
    CallS Try.prog 61 [.int .i64 (n : Int), .int .i64 (root : Int), .int .i64 (p : Int)].toArray L (fun v M => v = .int .i64 ((rk n root p : Nat) : Int) ∧ M = L) := by
  refine CallS.ent ?_
  refine CallS.enter Try.func61 rfl rfl rfl rfl rfl ?_
  refine J.seq rfl ?_
  refine J.region rfl ?_
  refine JO.pur rfl rfl rfl (Pur.assign rfl) ?_
  refine JO.nil ?_
  refine J.seq rfl ?_
  refine J.region rfl ?_
  refine JO.pur rfl rfl rfl (Pur.move rfl) ?_
  refine JO.pur rfl rfl rfl (Pur.move rfl) ?_
  refine JO.pur rfl rfl rfl (Pur.sub rfl rfl (wr64 (by omega))) ?_
  refine JO.pur rfl rfl rfl (Pur.move rfl) ?_
  refine JO.pur rfl rfl rfl (Pur.add rfl rfl (wr64 (by omega))) ?_
  refine JO.setv (u' := .int .i64 ((p + n - root : Nat) : Int)) 11 rfl (congrArg (Value.int .i64) (by omega)) ?_
  refine JO.pur rfl rfl rfl (Pur.move rfl) ?_
  refine JO.pur rfl rfl rfl (Pur.rem rfl rfl (by omega)) ?_
  refine JO.pur rfl rfl rfl (Pur.assign rfl) ?_
  refine JO.nil ?_
  refine J.ret rfl rfl ?_
  refine ⟨_, _, ⟨rfl, rfl⟩, congrArg (Value.int .i64) (tmodN _ _), SubC.out⟩

theorem parent_ok {L : List Asn} {n root p : Nat} (hn : n ≤ 8) (hr : root < n) (hp : p < n) (hne : p ≠ root) :
    CallS Try.prog 60 [.int .i64 (n : Int), .int .i64 (root : Int), .int .i64 (p : Int)].toArray L (fun v M => v = .int .i64 ((parP n root p : Nat) : Int) ∧ M = L) := by
  have hrl : rk n root p < n := rk_lt (by omega)
  refine CallS.ent ?_
  refine CallS.enter Try.func60 rfl rfl rfl rfl rfl ?_
  refine J.seq rfl ?_
  refine J.region rfl ?_
  refine JO.pur rfl rfl rfl (Pur.assign rfl) ?_
  refine JO.nil ?_
  refine J.seq rfl ?_
  refine J.region rfl ?_
  refine JO.pur rfl rfl rfl (Pur.move rfl) ?_
  refine JO.pur rfl rfl rfl (Pur.move rfl) ?_
  refine JO.pur rfl rfl rfl (Pur.move rfl) ?_
  refine JO.effR rfl rfl rfl (Eff.call rfl (rank_ok hn hr hp)) ?_
  refine JO.pur rfl rfl rfl (Pur.assign rfl) ?_
  refine JO.nil ?_
  refine J.seq rfl ?_
  have hrp := rk_pos n (by omega) root hr p hp hne
  refine J.region rfl ?_
  refine JO.pur rfl rfl rfl (Pur.move rfl) ?_
  refine JO.pur rfl rfl rfl (Pur.move rfl) ?_
  refine JO.pur rfl rfl rfl (Pur.sub rfl rfl (wr64 (by omega))) ?_
  refine JO.setv (u' := .int .i64 ((rk n root p - 1 : Nat) : Int)) 14 rfl (congrArg (Value.int .i64) (by omega)) ?_
  refine JO.pur rfl rfl rfl (Pur.andN rfl rfl rfl rfl (by omega) (by omega)) ?_
  have hab : rk n root p &&& (rk n root p - 1) ≤ rk n root p := Nat.and_le_left
  obtain ⟨ab, hab2⟩ : ∃ ab, ab = rk n root p &&& (rk n root p - 1) := ⟨_, rfl⟩
  rw [← hab2] at hab
  refine JO.setv (u' := .int .i64 (ab : Int)) 15 rfl (by rw [hab2]) ?_
  refine JO.pur rfl rfl rfl (Pur.move rfl) ?_
  refine JO.pur rfl rfl rfl (Pur.add rfl rfl (wr64 (by omega))) ?_
  refine JO.setv (u' := .int .i64 ((ab + root : Nat) : Int)) 17 rfl rfl ?_
  refine JO.pur rfl rfl rfl (Pur.move rfl) ?_
  refine JO.pur rfl rfl rfl (Pur.rem rfl rfl (by omega)) ?_
  refine JO.pur rfl rfl rfl (Pur.assign rfl) ?_
  refine JO.nil ?_
  refine J.ret rfl rfl ?_
  refine ⟨_, _, ⟨rfl, rfl⟩, congrArg (Value.int .i64) (by rw [tmodN, hab2]; rfl), SubC.out⟩

theorem children_ok {L : List Asn} {n root p : Nat} (hn : n ≤ 8) (hr : root < n) (hp : p < n) :
    CallS Try.prog 56 [.int .i64 (n : Int), .int .i64 (root : Int), .int .i64 (p : Int)].toArray L (fun v M => ∃ a' c', v = .slice a' (natI (chP n root p)).length c' ∧ M = sl intE a' c' (natI (chP n root p)) :: L) := by
  have hrl : rk n root p < n := rk_lt (by omega)
  refine CallS.ent ?_
  refine CallS.enter Try.func56 rfl rfl rfl rfl rfl ?_
  refine J.seq rfl ?_
  refine J.region rfl ?_
  refine JO.pur rfl rfl rfl (Pur.assign rfl) ?_
  refine JO.nil ?_
  refine J.seq rfl ?_
  refine J.region rfl ?_
  refine JO.pur rfl rfl rfl (Pur.move rfl) ?_
  refine JO.pur rfl rfl rfl (Pur.move rfl) ?_
  refine JO.pur rfl rfl rfl (Pur.move rfl) ?_
  refine JO.effR rfl rfl rfl (Eff.call rfl (rank_ok hn hr hp)) ?_
  refine JO.pur rfl rfl rfl (Pur.assign rfl) ?_
  refine JO.nil ?_
  refine J.seq rfl ?_
  refine J.region rfl ?_
  refine JO.pur rfl rfl rfl (Pur.assign rfl) ?_
  refine JO.nil ?_
  refine J.seq rfl ?_
  refine J.seq rfl ?_
  refine J.region rfl ?_
  refine JO.pur rfl rfl rfl (Pur.assign rfl) ?_
  refine JO.nil ?_
  refine J.block rfl ?_
  refine J.loopF (ι := Nat × Option Addr × Nat) (fun q => q.1 ≤ 3 ∧ chk n root (rk n root p) bitL = ((bitL.take (q.1)).map fun b => ((rk n root p) + b + root) % n) ++ chk n root (rk n root p) (bitL.drop q.1)) (fun q => [(8, .slice q.2.1 (natI ((bitL.take (q.1)).map fun b => ((rk n root p) + b + root) % n)).length q.2.2), (9, .int .i64 ((2 ^ q.1 : Nat) : Int))]) [(0, _), (1, _), (7, _)] (fun q => sl intE q.2.1 q.2.2 (natI ((bitL.take (q.1)).map fun b => ((rk n root p) + b + root) % n)) :: L) (fun q => 3 - q.1) (0, none, 0) rfl (.cons rfl rfl (.cons rfl rfl (.cons rfl rfl .nil))) (.cons rfl rfl (.cons rfl rfl .nil)) (fun h s => by have s2 := sl_nil_new (E := intE) s; exact s2) ⟨Nat.zero_le _, rfl⟩ ?_
  rintro ⟨k, a8, c8⟩ ⟨hk, hck⟩ ihk
  try dsimp only
  dsimp only at hk hck
  have hw8 := pow_le hk
  obtain ⟨w, hw⟩ : ∃ w, w = 2 ^ k := ⟨_, rfl⟩
  rw [← hw] at hw8 ⊢
  have hpl : (natI ((bitL.take (k)).map fun b => ((rk n root p) + b + root) % n)).length = k := by simp [natI, bitL]; omega
  refine J.seq rfl ?_
  refine J.seq rfl ?_
  refine J.region rfl ?_
  refine JO.pur rfl rfl rfl (Pur.move rfl) ?_
  refine JO.pur rfl rfl rfl (Pur.move rfl) ?_
  refine JO.pur rfl rfl rfl (Pur.add rfl rfl (wr64 (by omega))) ?_
  refine JO.pur rfl rfl rfl (Pur.move rfl) ?_
  refine JO.pur rfl rfl rfl (Pur.lss rfl rfl) ?_
  refine JO.pur rfl rfl rfl (Pur.move rfl) ?_
  refine JO.splitB 19 rfl (fun h19 => ?_) (fun h19 => ?_)
  · try simp only [bSimp, bSimp2, ne_eq] at h19
    have hlt : (rk n root p) + w < n := by omega
    have hk3 : k < 3 := by
      rcases Nat.lt_or_ge k 3 with h | h
      · exact h
      · have : k = 3 := by omega
        rw [this] at hw; omega
    refine JO.pur rfl rfl rfl (Pur.move rfl) ?_
    refine JO.pur rfl rfl rfl (Pur.move rfl) ?_
    refine JO.pur rfl rfl rfl (Pur.andN rfl rfl rfl rfl (by omega) (by omega)) ?_
    refine JO.pur rfl rfl rfl (Pur.eqlI rfl rfl) ?_
    refine JO.pur rfl rfl rfl (Pur.pickT rfl rfl) ?_
    refine JO.nil ?_
    refine J.splitB 24 rfl (fun h24 => ?_) (fun h24 => ?_)
    · try simp only [bSimp, bSimp2, ne_eq] at h24
      have hz : (rk n root p) &&& w = 0 := by omega
      have hbd := bit_drop k hk3
      rw [← hw] at hbd
      have hpre : ((bitL.take (k + 1)).map fun b => ((rk n root p) + b + root) % n) = ((bitL.take (k)).map fun b => ((rk n root p) + b + root) % n) ++ [((rk n root p) + w + root) % n] := by rw [take_get (bit_get k hk3), List.map_append, ← hw]; rfl
      have hck2 : chk n root (rk n root p) bitL = ((bitL.take (k + 1)).map fun b => ((rk n root p) + b + root) % n) ++ chk n root (rk n root p) (bitL.drop (k + 1)) := by rw [hck, hbd, chk_yes hlt hz, hpre, List.append_assoc]; rfl
      refine J.condT rfl rfl ?_
      refine J.skip rfl ?_
      refine J.seq rfl ?_
      refine J.block rfl ?_
      refine J.region rfl ?_
      refine JO.pur rfl rfl rfl (Pur.move rfl) ?_
      refine JO.pur rfl rfl rfl (Pur.move rfl) ?_
      refine JO.pur rfl rfl rfl (Pur.move rfl) ?_
      refine JO.pur rfl rfl rfl (Pur.add rfl rfl (wr64 (by omega))) ?_
      refine JO.pur rfl rfl rfl (Pur.move rfl) ?_
      refine JO.pur rfl rfl rfl (Pur.add rfl rfl (wr64 (by omega))) ?_
      refine JO.setv (u' := .int .i64 (((rk n root p) + w + root : Nat) : Int)) 32 rfl rfl ?_
      refine JO.pur rfl rfl rfl (Pur.move rfl) ?_
      refine JO.pur rfl rfl rfl (Pur.rem rfl rfl (by omega)) ?_
      refine JO.setv (u' := .int .i64 ((((rk n root p) + w + root) % n : Nat) : Int)) 34 rfl (congrArg (Value.int .i64) (tmodN _ _)) ?_
      refine JO.eff rfl rfl rfl (Eff.buildSlice intE [((((rk n root p) + w + root) % n : Nat) : Int)] rfl rfl rfl rfl rfl rfl rfl) ?_
      rintro _ _ ⟨b35, rfl, -, rfl⟩
      refine JO.eff rfl rfl rfl (Eff.append rfl rfl rfl rfl (by first | rfl | omega | (simp; done) | (simp; omega)) (by first | rfl | omega | (simp; done) | (simp; omega)) (by decide) (by rw [hpl]; simp; omega) (by rw [hpl]; simp; omega) (fun h => by cases h)) ?_
      rintro _ _ ⟨a36, c36, rfl, rfl⟩
      refine JO.pur rfl rfl rfl (Pur.assign rfl) ?_
      refine JO.nil ?_
      refine J.inBlock ?_
      refine J.region rfl ?_
      refine JO.pur rfl rfl rfl (Pur.move rfl) ?_
      refine JO.pur rfl rfl rfl (Pur.mul rfl rfl (wr64 (by omega))) ?_
      refine JO.pur rfl rfl rfl (Pur.assign rfl) ?_
      refine JO.nil ?_
      exact J.weaken (.cons rfl (by dsimp only; rw [hpre, natI_app, List.length_append]; rfl) (.cons rfl (congrArg (Value.int .i64) (by dsimp only; rw [Nat.pow_succ, hw]; omega)) (.cons rfl rfl (.cons rfl rfl (.cons rfl rfl .nil))))) (fun h s => by dsimp only; rw [hpre, natI_app, natI_one]; exact SubC.out h s) (ihk (k + 1, a36, c36) ⟨by dsimp only; omega, hck2⟩ (by dsimp only; omega))
    · try simp only [bSimp, bSimp2, ne_eq] at h24
      have hstop : chk n root (rk n root p) (bitL.drop k) = [] := by
        have hbd := bit_drop k hk3
        rw [hbd, ← hw]
        exact chk_no (fun g => by have := g.2; omega)
      refine J.condF rfl rfl ?_
      refine J.exit rfl rfl ?_
      refine J.seq rfl ?_
      refine J.region rfl ?_
      refine JO.pur rfl rfl rfl (Pur.move rfl) ?_
      refine JO.pur rfl rfl rfl (Pur.assign rfl) ?_
      refine JO.nil ?_
      refine J.ret rfl rfl ?_
      have hfin : chP n root p = ((bitL.take (k)).map fun b => ((rk n root p) + b + root) % n) := by unfold chP; rw [show ([1, 2, 4] : List Nat) = bitL from rfl, hck, hstop, List.append_nil]
      refine ⟨_, _, ⟨a8, c8, rfl, rfl⟩, by rw [hfin]; rfl, fun h s => ?_⟩
      rw [hfin]
      exact SubC.out h s
  · try simp only [bSimp, bSimp2, ne_eq] at h19
    have hstop : chk n root (rk n root p) (bitL.drop k) = [] := by
      rcases Nat.lt_or_ge k 3 with h | h
      · rw [bit_drop k h, ← hw]; exact chk_no (fun g => by have := g.1; omega)
      · have : k = 3 := by omega
        rw [this]; rfl
    refine JO.no rfl rfl rfl ?_
    refine JO.no rfl rfl rfl ?_
    refine JO.no rfl rfl rfl ?_
    refine JO.no rfl rfl rfl ?_
    refine JO.pur rfl rfl rfl (Pur.pickF rfl rfl) ?_
    refine JO.nil ?_
    refine J.condF rfl rfl ?_
    refine J.exit rfl rfl ?_
    refine J.seq rfl ?_
    refine J.region rfl ?_
    refine JO.pur rfl rfl rfl (Pur.move rfl) ?_
    refine JO.pur rfl rfl rfl (Pur.assign rfl) ?_
    refine JO.nil ?_
    refine J.ret rfl rfl ?_
    have hfin : chP n root p = ((bitL.take (k)).map fun b => ((rk n root p) + b + root) % n) := by unfold chP; rw [show ([1, 2, 4] : List Nat) = bitL from rfl, hck, hstop, List.append_nil]
    refine ⟨_, _, ⟨a8, c8, rfl, rfl⟩, by rw [hfin]; rfl, fun h s => ?_⟩
    rw [hfin]
    exact SubC.out h s

end Go.Proofs.Ytoikjjpleonllaa

/- The text G8. -/
set_option linter.unusedVariables false
set_option linter.unusedSimpArgs false
set_option maxRecDepth 10000
namespace Go.Proofs.Ytoikjjpleonllaa
open Go Go.KK Gr

theorem le_bit : ∀ r, r < 8 → ∀ k, k < 3 → ¬ r &&& 2 ^ k = 0 → 2 ^ k ≤ r := by decide
theorem rParent_ok {L : List Asn} {n root q : Int} :
    CallS Try.prog 24 [.int .i64 n, .int .i64 root, .int .i64 q].toArray L (fun v M => v = .tuple #[.int .i64 (parV n root q).1, .int .i64 (parV n root q).2] ∧ M = L) := by
  refine CallS.ent ?_
  refine CallS.enter Try.func24 rfl rfl rfl rfl rfl ?_
  refine J.seq rfl ?_
  refine J.region rfl ?_
  refine JO.pur rfl rfl rfl (Pur.assign rfl) ?_
  refine JO.pur rfl rfl rfl (Pur.assign rfl) ?_
  refine JO.nil ?_
  refine J.seq rfl ?_
  refine J.seq rfl ?_
  refine J.region rfl ?_
  refine JO.pur rfl rfl rfl (Pur.move rfl) ?_
  refine JO.pur rfl rfl rfl (Pur.lss rfl rfl) ?_
  refine JO.pur rfl rfl rfl (Pur.move rfl) ?_
  refine JO.splitB 12 rfl (fun h12 => ?_) (fun h12 => ?_)
  · try simp only [bSimp, bSimp2, ne_eq] at h12
    have hv : parV n root q = (0, 2) := if_neg (fun g => by have := g.1; have := g.2; unfold tOk at *; omega)
    refine JO.no rfl rfl rfl ?_
    refine JO.no rfl rfl rfl ?_
    refine JO.pur rfl rfl rfl (Pur.pickT rfl rfl) ?_
    refine JO.pur rfl rfl rfl (Pur.move rfl) ?_
    refine JO.no rfl rfl rfl ?_
    refine JO.no rfl rfl rfl ?_
    refine JO.pur rfl rfl rfl (Pur.pickT rfl rfl) ?_
    refine JO.pur rfl rfl rfl (Pur.move rfl) ?_
    refine JO.no rfl rfl rfl ?_
    refine JO.no rfl rfl rfl ?_
    refine JO.no rfl rfl rfl ?_
    refine JO.pur rfl rfl rfl (Pur.pickT rfl rfl) ?_
    refine JO.pur rfl rfl rfl (Pur.move rfl) ?_
    refine JO.no rfl rfl rfl ?_
    refine JO.no rfl rfl rfl ?_
    refine JO.pur rfl rfl rfl (Pur.pickT rfl rfl) ?_
    refine JO.pur rfl rfl rfl (Pur.move rfl) ?_
    refine JO.no rfl rfl rfl ?_
    refine JO.no rfl rfl rfl ?_
    refine JO.no rfl rfl rfl ?_
    refine JO.pur rfl rfl rfl (Pur.pickT rfl rfl) ?_
    refine JO.pur rfl rfl rfl (Pur.move rfl) ?_
    refine JO.no rfl rfl rfl ?_
    refine JO.no rfl rfl rfl ?_
    refine JO.no rfl rfl rfl ?_
    refine JO.pur rfl rfl rfl (Pur.pickT rfl rfl) ?_
    refine JO.nil ?_
    refine J.condT rfl rfl ?_
    refine J.seq rfl ?_
    refine J.region rfl ?_
    refine JO.pur rfl rfl rfl (Pur.assign rfl) ?_
    refine JO.pur rfl rfl rfl (Pur.assign rfl) ?_
    refine JO.nil ?_
    refine J.ret rfl rfl ?_
    first
    | exact ⟨_, _, ⟨rfl, rfl⟩, by rw [hv]; rfl, SubC.out⟩
    | exact ⟨_, _, ⟨rfl, rfl⟩, by rw [hv]; show Value.tuple #[.int .i64 _, .int .i64 0] = Value.tuple #[.int .i64 ((parP n root q : Nat) : Int), .int .i64 0]; rw [hpe, tmodN]; unfold parR; rw [hlf], SubC.out⟩
  · try simp only [bSimp, bSimp2, ne_eq] at h12
    refine JO.pur rfl rfl rfl (Pur.move rfl) ?_
    refine JO.pur rfl rfl rfl (Pur.gtr rfl rfl) ?_
    refine JO.pur rfl rfl rfl (Pur.pickF rfl rfl) ?_
    refine JO.pur rfl rfl rfl (Pur.move rfl) ?_
    refine JO.splitB 16 rfl (fun h16 => ?_) (fun h16 => ?_)
    · try simp only [bSimp, bSimp2, ne_eq] at h16
      have hv : parV n root q = (0, 2) := if_neg (fun g => by have := g.1; have := g.2; unfold tOk at *; omega)
      refine JO.no rfl rfl rfl ?_
      refine JO.no rfl rfl rfl ?_
      refine JO.pur rfl rfl rfl (Pur.pickT rfl rfl) ?_
      refine JO.pur rfl rfl rfl (Pur.move rfl) ?_
      refine JO.no rfl rfl rfl ?_
      refine JO.no rfl rfl rfl ?_
      refine JO.no rfl rfl rfl ?_
      refine JO.pur rfl rfl rfl (Pur.pickT rfl rfl) ?_
      refine JO.pur rfl rfl rfl (Pur.move rfl) ?_
      refine JO.no rfl rfl rfl ?_
      refine JO.no rfl rfl rfl ?_
      refine JO.pur rfl rfl rfl (Pur.pickT rfl rfl) ?_
      refine JO.pur rfl rfl rfl (Pur.move rfl) ?_
      refine JO.no rfl rfl rfl ?_
      refine JO.no rfl rfl rfl ?_
      refine JO.no rfl rfl rfl ?_
      refine JO.pur rfl rfl rfl (Pur.pickT rfl rfl) ?_
      refine JO.pur rfl rfl rfl (Pur.move rfl) ?_
      refine JO.no rfl rfl rfl ?_
      refine JO.no rfl rfl rfl ?_
      refine JO.no rfl rfl rfl ?_
      refine JO.pur rfl rfl rfl (Pur.pickT rfl rfl) ?_
      refine JO.nil ?_
      refine J.condT rfl rfl ?_
      refine J.seq rfl ?_
      refine J.region rfl ?_
      refine JO.pur rfl rfl rfl (Pur.assign rfl) ?_
      refine JO.pur rfl rfl rfl (Pur.assign rfl) ?_
      refine JO.nil ?_
      refine J.ret rfl rfl ?_
      first
      | exact ⟨_, _, ⟨rfl, rfl⟩, by rw [hv]; rfl, SubC.out⟩
      | exact ⟨_, _, ⟨rfl, rfl⟩, by rw [hv]; show Value.tuple #[.int .i64 _, .int .i64 0] = Value.tuple #[.int .i64 ((parP n root q : Nat) : Int), .int .i64 0]; rw [hpe, tmodN]; unfold parR; rw [hlf], SubC.out⟩
    · try simp only [bSimp, bSimp2, ne_eq] at h16
      refine JO.pur rfl rfl rfl (Pur.move rfl) ?_
      refine JO.pur rfl rfl rfl (Pur.lss rfl rfl) ?_
      refine JO.pur rfl rfl rfl (Pur.pickF rfl rfl) ?_
      refine JO.pur rfl rfl rfl (Pur.move rfl) ?_
      refine JO.splitB 20 rfl (fun h20 => ?_) (fun h20 => ?_)
      · try simp only [bSimp, bSimp2, ne_eq] at h20
        have hv : parV n root q = (0, 2) := if_neg (fun g => by have := g.1; have := g.2; unfold tOk at *; omega)
        refine JO.no rfl rfl rfl ?_
        refine JO.no rfl rfl rfl ?_
        refine JO.no rfl rfl rfl ?_
        refine JO.pur rfl rfl rfl (Pur.pickT rfl rfl) ?_
        refine JO.pur rfl rfl rfl (Pur.move rfl) ?_
        refine JO.no rfl rfl rfl ?_
        refine JO.no rfl rfl rfl ?_
        refine JO.pur rfl rfl rfl (Pur.pickT rfl rfl) ?_
        refine JO.pur rfl rfl rfl (Pur.move rfl) ?_
        refine JO.no rfl rfl rfl ?_
        refine JO.no rfl rfl rfl ?_
        refine JO.no rfl rfl rfl ?_
        refine JO.pur rfl rfl rfl (Pur.pickT rfl rfl) ?_
        refine JO.pur rfl rfl rfl (Pur.move rfl) ?_
        refine JO.no rfl rfl rfl ?_
        refine JO.no rfl rfl rfl ?_
        refine JO.no rfl rfl rfl ?_
        refine JO.pur rfl rfl rfl (Pur.pickT rfl rfl) ?_
        refine JO.nil ?_
        refine J.condT rfl rfl ?_
        refine J.seq rfl ?_
        refine J.region rfl ?_
        refine JO.pur rfl rfl rfl (Pur.assign rfl) ?_
        refine JO.pur rfl rfl rfl (Pur.assign rfl) ?_
        refine JO.nil ?_
        refine J.ret rfl rfl ?_
        first
        | exact ⟨_, _, ⟨rfl, rfl⟩, by rw [hv]; rfl, SubC.out⟩
        | exact ⟨_, _, ⟨rfl, rfl⟩, by rw [hv]; show Value.tuple #[.int .i64 _, .int .i64 0] = Value.tuple #[.int .i64 ((parP n root q : Nat) : Int), .int .i64 0]; rw [hpe, tmodN]; unfold parR; rw [hlf], SubC.out⟩
      · try simp only [bSimp, bSimp2, ne_eq] at h20
        refine JO.pur rfl rfl rfl (Pur.move rfl) ?_
        refine JO.pur rfl rfl rfl (Pur.move rfl) ?_
        refine JO.pur rfl rfl rfl (Pur.geq rfl rfl) ?_
        refine JO.pur rfl rfl rfl (Pur.pickF rfl rfl) ?_
        refine JO.pur rfl rfl rfl (Pur.move rfl) ?_
        refine JO.splitB 25 rfl (fun h25 => ?_) (fun h25 => ?_)
        · try simp only [bSimp, bSimp2, ne_eq] at h25
          have hv : parV n root q = (0, 2) := if_neg (fun g => by have := g.1; have := g.2; unfold tOk at *; omega)
          refine JO.no rfl rfl rfl ?_
          refine JO.no rfl rfl rfl ?_
          refine JO.pur rfl rfl rfl (Pur.pickT rfl rfl) ?_
          refine JO.pur rfl rfl rfl (Pur.move rfl) ?_
          refine JO.no rfl rfl rfl ?_
          refine JO.no rfl rfl rfl ?_
          refine JO.no rfl rfl rfl ?_
          refine JO.pur rfl rfl rfl (Pur.pickT rfl rfl) ?_
          refine JO.pur rfl rfl rfl (Pur.move rfl) ?_
          refine JO.no rfl rfl rfl ?_
          refine JO.no rfl rfl rfl ?_
          refine JO.no rfl rfl rfl ?_
          refine JO.pur rfl rfl rfl (Pur.pickT rfl rfl) ?_
          refine JO.nil ?_
          refine J.condT rfl rfl ?_
          refine J.seq rfl ?_
          refine J.region rfl ?_
          refine JO.pur rfl rfl rfl (Pur.assign rfl) ?_
          refine JO.pur rfl rfl rfl (Pur.assign rfl) ?_
          refine JO.nil ?_
          refine J.ret rfl rfl ?_
          first
          | exact ⟨_, _, ⟨rfl, rfl⟩, by rw [hv]; rfl, SubC.out⟩
          | exact ⟨_, _, ⟨rfl, rfl⟩, by rw [hv]; show Value.tuple #[.int .i64 _, .int .i64 0] = Value.tuple #[.int .i64 ((parP n root q : Nat) : Int), .int .i64 0]; rw [hpe, tmodN]; unfold parR; rw [hlf], SubC.out⟩
        · try simp only [bSimp, bSimp2, ne_eq] at h25
          refine JO.pur rfl rfl rfl (Pur.move rfl) ?_
          refine JO.pur rfl rfl rfl (Pur.lss rfl rfl) ?_
          refine JO.pur rfl rfl rfl (Pur.pickF rfl rfl) ?_
          refine JO.pur rfl rfl rfl (Pur.move rfl) ?_
          refine JO.splitB 29 rfl (fun h29 => ?_) (fun h29 => ?_)
          · try simp only [bSimp, bSimp2, ne_eq] at h29
            have hv : parV n root q = (0, 2) := if_neg (fun g => by have := g.1; have := g.2; unfold tOk at *; omega)
            refine JO.no rfl rfl rfl ?_
            refine JO.no rfl rfl rfl ?_
            refine JO.no rfl rfl rfl ?_
            refine JO.pur rfl rfl rfl (Pur.pickT rfl rfl) ?_
            refine JO.pur rfl rfl rfl (Pur.move rfl) ?_
            refine JO.no rfl rfl rfl ?_
            refine JO.no rfl rfl rfl ?_
            refine JO.no rfl rfl rfl ?_
            refine JO.pur rfl rfl rfl (Pur.pickT rfl rfl) ?_
            refine JO.nil ?_
            refine J.condT rfl rfl ?_
            refine J.seq rfl ?_
            refine J.region rfl ?_
            refine JO.pur rfl rfl rfl (Pur.assign rfl) ?_
            refine JO.pur rfl rfl rfl (Pur.assign rfl) ?_
            refine JO.nil ?_
            refine J.ret rfl rfl ?_
            first
            | exact ⟨_, _, ⟨rfl, rfl⟩, by rw [hv]; rfl, SubC.out⟩
            | exact ⟨_, _, ⟨rfl, rfl⟩, by rw [hv]; show Value.tuple #[.int .i64 _, .int .i64 0] = Value.tuple #[.int .i64 ((parP n root q : Nat) : Int), .int .i64 0]; rw [hpe, tmodN]; unfold parR; rw [hlf], SubC.out⟩
          · try simp only [bSimp, bSimp2, ne_eq] at h29
            refine JO.pur rfl rfl rfl (Pur.move rfl) ?_
            refine JO.pur rfl rfl rfl (Pur.move rfl) ?_
            refine JO.pur rfl rfl rfl (Pur.geq rfl rfl) ?_
            refine JO.pur rfl rfl rfl (Pur.pickF rfl rfl) ?_
            refine JO.pur rfl rfl rfl (Pur.move rfl) ?_
            refine JO.splitB 34 rfl (fun h34 => ?_) (fun h34 => ?_)
            · try simp only [bSimp, bSimp2, ne_eq] at h34
              have hv : parV n root q = (0, 2) := if_neg (fun g => by have := g.1; have := g.2; unfold tOk at *; omega)
              refine JO.no rfl rfl rfl ?_
              refine JO.no rfl rfl rfl ?_
              refine JO.no rfl rfl rfl ?_
              refine JO.pur rfl rfl rfl (Pur.pickT rfl rfl) ?_
              refine JO.nil ?_
              refine J.condT rfl rfl ?_
              refine J.seq rfl ?_
              refine J.region rfl ?_
              refine JO.pur rfl rfl rfl (Pur.assign rfl) ?_
              refine JO.pur rfl rfl rfl (Pur.assign rfl) ?_
              refine JO.nil ?_
              refine J.ret rfl rfl ?_
              first
              | exact ⟨_, _, ⟨rfl, rfl⟩, by rw [hv]; rfl, SubC.out⟩
              | exact ⟨_, _, ⟨rfl, rfl⟩, by rw [hv]; show Value.tuple #[.int .i64 _, .int .i64 0] = Value.tuple #[.int .i64 ((parP n root q : Nat) : Int), .int .i64 0]; rw [hpe, tmodN]; unfold parR; rw [hlf], SubC.out⟩
            · try simp only [bSimp, bSimp2, ne_eq] at h34
              refine JO.pur rfl rfl rfl (Pur.move rfl) ?_
              refine JO.pur rfl rfl rfl (Pur.move rfl) ?_
              refine JO.pur rfl rfl rfl (Pur.eqlI rfl rfl) ?_
              refine JO.pur rfl rfl rfl (Pur.pickF rfl rfl) ?_
              refine JO.nil ?_
              refine J.splitB 38 rfl (fun h38 => ?_) (fun h38 => ?_)
              · try simp only [bSimp, bSimp2, ne_eq] at h38
                have hv : parV n root q = (0, 2) := if_neg (fun g => by have := g.1; have := g.2; unfold tOk at *; omega)
                refine J.condT rfl rfl ?_
                refine J.seq rfl ?_
                refine J.region rfl ?_
                refine JO.pur rfl rfl rfl (Pur.assign rfl) ?_
                refine JO.pur rfl rfl rfl (Pur.assign rfl) ?_
                refine JO.nil ?_
                refine J.ret rfl rfl ?_
                first
                | exact ⟨_, _, ⟨rfl, rfl⟩, by rw [hv]; rfl, SubC.out⟩
                | exact ⟨_, _, ⟨rfl, rfl⟩, by rw [hv]; show Value.tuple #[.int .i64 _, .int .i64 0] = Value.tuple #[.int .i64 ((parP n root q : Nat) : Int), .int .i64 0]; rw [hpe, tmodN]; unfold parR; rw [hlf], SubC.out⟩
              · try simp only [bSimp, bSimp2, ne_eq] at h38
                have hok : tOk n root q := by unfold tOk; omega
                have hv : parV n root q = (((parP n.toNat root.toNat q.toNat : Nat) : Int), 0) := if_pos ⟨hok, by omega⟩
                obtain ⟨g1, g2, g3, g4, g5, g6⟩ := hok
                obtain ⟨n, rfl⟩ : ∃ n' : Nat, n = (n' : Int) := ⟨n.toNat, by omega⟩
                obtain ⟨root, rfl⟩ : ∃ n' : Nat, root = (n' : Int) := ⟨root.toNat, by omega⟩
                obtain ⟨q, rfl⟩ : ∃ n' : Nat, q = (n' : Int) := ⟨q.toNat, by omega⟩
                have hne : q ≠ root := by omega
                have hrl : rk n root q < n := rk_lt (by omega)
                have hrp := rk_pos n (by omega) root (by omega) q (by omega) hne
                have hpe := par_eq n (by omega) root (by omega) q (by omega) hne
                refine J.condF rfl rfl ?_
                refine J.skip rfl ?_
                refine J.seq rfl ?_
                refine J.region rfl ?_
                refine JO.pur rfl rfl rfl (Pur.move rfl) ?_
                refine JO.pur rfl rfl rfl (Pur.move rfl) ?_
                refine JO.pur rfl rfl rfl (Pur.move rfl) ?_
                refine JO.effR rfl rfl rfl (Eff.call rfl (rrank_ok (n := n) (root := root) (p := q) (by omega) (by omega) (by omega))) ?_
                refine JO.pur rfl rfl rfl (Pur.assign rfl) ?_
                refine JO.nil ?_
                refine J.seq rfl ?_
                refine J.region rfl ?_
                refine JO.pur rfl rfl rfl (Pur.assign rfl) ?_
                refine JO.nil ?_
                refine J.seq rfl ?_
                refine J.block rfl ?_
                refine J.loopF (ι := Nat) (fun z => z ≤ 2 ∧ low 3 (rk n root q) 1 = low (3 - z) (rk n root q) (2 ^ z) ∧ ∀ j, j < z → (rk n root q) &&& 2 ^ j = 0) (fun z => [(9, .int .i64 ((2 ^ z : Nat) : Int))]) [(0, _), (1, _), (8, _)] (fun z => L) (fun z => 2 - z) 0 rfl (.cons rfl rfl (.cons rfl rfl (.cons rfl rfl .nil))) (.cons rfl rfl .nil) (by first | exact fun _ h => h | exact SubC.out | (dsimp only; exact SubC.out)) ⟨by omega, rfl, fun j hj => absurd hj (Nat.not_lt_zero j)⟩ ?_
                rintro k ⟨hk, hlw, hz⟩ ihk
                try dsimp only
                have hw8 := pow_le (r := k) (by omega)
                obtain ⟨w, hw⟩ : ∃ w, w = 2 ^ k := ⟨_, rfl⟩
                rw [← hw] at hw8 ⊢
                refine J.seq rfl ?_
                refine J.seq rfl ?_
                refine J.region rfl ?_
                refine JO.pur rfl rfl rfl (Pur.move rfl) ?_
                refine JO.pur rfl rfl rfl (Pur.move rfl) ?_
                refine JO.pur rfl rfl rfl (Pur.andN rfl rfl rfl rfl (by omega) (by omega)) ?_
                refine JO.pur rfl rfl rfl (Pur.eqlI rfl rfl) ?_
                refine JO.nil ?_
                refine J.splitB 46 rfl (fun h46 => ?_) (fun h46 => ?_)
                · try simp only [bSimp, bSimp2, ne_eq] at h46
                  have h0 : (rk n root q) &&& w = 0 := by omega
                  rw [hw] at h0
                  have hz2 : ∀ j, j < k + 1 → (rk n root q) &&& 2 ^ j = 0 := fun j hj => by
                    by_cases e : j = k
                    · rw [e]; exact h0
                    · exact hz j (by omega)
                  have hk2 : k < 2 := by
                    rcases Nat.lt_or_ge k 2 with h | h
                    · exact h
                    · exact (no_bit (rk n root q) (by omega) hrp (hz2 0 (by omega)) (hz2 1 (by omega)) (hz2 2 (by omega))).elim
                  have hlw2 : low 3 (rk n root q) 1 = low (3 - (k + 1)) (rk n root q) (2 ^ (k + 1)) := by
                    rw [hlw, show 3 - k = (3 - (k + 1)) + 1 by omega]
                    conv => lhs; unfold low
                    rw [if_pos h0, Nat.pow_succ]
                  refine J.condT rfl rfl ?_
                  refine J.skip rfl ?_
                  refine J.block rfl ?_
                  refine J.region rfl ?_
                  refine JO.pur rfl rfl rfl (Pur.move rfl) ?_
                  refine JO.pur rfl rfl rfl (Pur.mul rfl rfl (wr64 (by omega))) ?_
                  refine JO.pur rfl rfl rfl (Pur.assign rfl) ?_
                  refine JO.nil ?_
                  refine J.inBlock ?_
                  exact J.weaken (.cons rfl (congrArg (Value.int .i64) (by rw [Nat.pow_succ, ← hw]; omega)) (.cons rfl rfl (.cons rfl rfl (.cons rfl rfl .nil)))) (by first | exact fun _ h => h | exact SubC.out | (dsimp only; exact SubC.out)) (ihk (k + 1) ⟨by omega, hlw2, hz2⟩ (by omega))
                · try simp only [bSimp, bSimp2, ne_eq] at h46
                  have h0 : ¬ (rk n root q) &&& w = 0 := by omega
                  have hlf : low 3 (rk n root q) 1 = w := by
                    rw [hlw, show 3 - k = (3 - (k + 1)) + 1 by omega, ← hw]
                    conv => lhs; unfold low
                    rw [if_neg h0]
                  have hwr : w ≤ (rk n root q) := by
                    rw [hw]
                    rw [hw] at h0
                    rcases (by omega : k = 0 ∨ k = 1 ∨ k = 2) with rfl | rfl | rfl
                    · exact le_bit (rk n root q) (by omega) 0 (by omega) h0
                    · exact le_bit (rk n root q) (by omega) 1 (by omega) h0
                    · exact le_bit (rk n root q) (by omega) 2 (by omega) h0
                  refine J.condF rfl rfl ?_
                  refine J.exit rfl rfl ?_
                  refine J.seq rfl ?_
                  refine J.region rfl ?_
                  refine JO.pur rfl rfl rfl (Pur.move rfl) ?_
                  refine JO.pur rfl rfl rfl (Pur.move rfl) ?_
                  refine JO.pur rfl rfl rfl (Pur.sub rfl rfl (wr64 (by omega))) ?_
                  refine JO.pur rfl rfl rfl (Pur.move rfl) ?_
                  refine JO.pur rfl rfl rfl (Pur.add rfl rfl (wr64 (by omega))) ?_
                  refine JO.setv (u' := .int .i64 (((rk n root q) - w + root : Nat) : Int)) 53 rfl (congrArg (Value.int .i64) (by omega)) ?_
                  refine JO.pur rfl rfl rfl (Pur.move rfl) ?_
                  refine JO.pur rfl rfl rfl (Pur.rem rfl rfl (by omega)) ?_
                  refine JO.pur rfl rfl rfl (Pur.assign rfl) ?_
                  refine JO.pur rfl rfl rfl (Pur.assign rfl) ?_
                  refine JO.nil ?_
                  refine J.ret rfl rfl ?_
                  first
                  | exact ⟨_, _, ⟨rfl, rfl⟩, by rw [hv]; rfl, SubC.out⟩
                  | exact ⟨_, _, ⟨rfl, rfl⟩, by rw [hv]; show Value.tuple #[.int .i64 _, .int .i64 0] = Value.tuple #[.int .i64 ((parP n root q : Nat) : Int), .int .i64 0]; rw [hpe, tmodN]; unfold parR; rw [hlf], SubC.out⟩

theorem rChildren_ok {L : List Asn} {n root q : Int} :
    CallS Try.prog 26 [.int .i64 n, .int .i64 root, .int .i64 q].toArray L (fun v M => ∃ a' c', v = .tuple #[.slice a' (chV n root q).1.length c', .int .i64 (chV n root q).2] ∧ M = sl intE a' c' (chV n root q).1 :: L) := by
  refine CallS.ent ?_
  refine CallS.enter Try.func26 rfl rfl rfl rfl rfl ?_
  refine J.seq rfl ?_
  refine J.region rfl ?_
  refine JO.pur rfl rfl rfl (Pur.assign rfl) ?_
  refine JO.pur rfl rfl rfl (Pur.assign rfl) ?_
  refine JO.nil ?_
  refine J.seq rfl ?_
  refine J.seq rfl ?_
  refine J.region rfl ?_
  refine JO.pur rfl rfl rfl (Pur.move rfl) ?_
  refine JO.pur rfl rfl rfl (Pur.lss rfl rfl) ?_
  refine JO.pur rfl rfl rfl (Pur.move rfl) ?_
  refine JO.splitB 15 rfl (fun h15 => ?_) (fun h15 => ?_)
  · try simp only [bSimp, bSimp2, ne_eq] at h15
    have hv : chV n root q = ([], 2) := if_neg (fun g => by unfold tOk at *; omega)
    refine JO.no rfl rfl rfl ?_
    refine JO.no rfl rfl rfl ?_
    refine JO.pur rfl rfl rfl (Pur.pickT rfl rfl) ?_
    refine JO.pur rfl rfl rfl (Pur.move rfl) ?_
    refine JO.no rfl rfl rfl ?_
    refine JO.no rfl rfl rfl ?_
    refine JO.pur rfl rfl rfl (Pur.pickT rfl rfl) ?_
    refine JO.pur rfl rfl rfl (Pur.move rfl) ?_
    refine JO.no rfl rfl rfl ?_
    refine JO.no rfl rfl rfl ?_
    refine JO.no rfl rfl rfl ?_
    refine JO.pur rfl rfl rfl (Pur.pickT rfl rfl) ?_
    refine JO.pur rfl rfl rfl (Pur.move rfl) ?_
    refine JO.no rfl rfl rfl ?_
    refine JO.no rfl rfl rfl ?_
    refine JO.pur rfl rfl rfl (Pur.pickT rfl rfl) ?_
    refine JO.pur rfl rfl rfl (Pur.move rfl) ?_
    refine JO.no rfl rfl rfl ?_
    refine JO.no rfl rfl rfl ?_
    refine JO.no rfl rfl rfl ?_
    refine JO.pur rfl rfl rfl (Pur.pickT rfl rfl) ?_
    refine JO.nil ?_
    refine J.condT rfl rfl ?_
    refine J.seq rfl ?_
    refine J.region rfl ?_
    refine JO.pur rfl rfl rfl (Pur.assign rfl) ?_
    refine JO.pur rfl rfl rfl (Pur.assign rfl) ?_
    refine JO.nil ?_
    refine J.ret rfl rfl ?_
    refine ⟨_, _, ⟨none, 0, rfl, rfl⟩, by rw [hv]; rfl, fun h s => ?_⟩
    rw [hv]; exact sl_nil_new (SubC.out h s)
  · try simp only [bSimp, bSimp2, ne_eq] at h15
    refine JO.pur rfl rfl rfl (Pur.move rfl) ?_
    refine JO.pur rfl rfl rfl (Pur.gtr rfl rfl) ?_
    refine JO.pur rfl rfl rfl (Pur.pickF rfl rfl) ?_
    refine JO.pur rfl rfl rfl (Pur.move rfl) ?_
    refine JO.splitB 19 rfl (fun h19 => ?_) (fun h19 => ?_)
    · try simp only [bSimp, bSimp2, ne_eq] at h19
      have hv : chV n root q = ([], 2) := if_neg (fun g => by unfold tOk at *; omega)
      refine JO.no rfl rfl rfl ?_
      refine JO.no rfl rfl rfl ?_
      refine JO.pur rfl rfl rfl (Pur.pickT rfl rfl) ?_
      refine JO.pur rfl rfl rfl (Pur.move rfl) ?_
      refine JO.no rfl rfl rfl ?_
      refine JO.no rfl rfl rfl ?_
      refine JO.no rfl rfl rfl ?_
      refine JO.pur rfl rfl rfl (Pur.pickT rfl rfl) ?_
      refine JO.pur rfl rfl rfl (Pur.move rfl) ?_
      refine JO.no rfl rfl rfl ?_
      refine JO.no rfl rfl rfl ?_
      refine JO.pur rfl rfl rfl (Pur.pickT rfl rfl) ?_
      refine JO.pur rfl rfl rfl (Pur.move rfl) ?_
      refine JO.no rfl rfl rfl ?_
      refine JO.no rfl rfl rfl ?_
      refine JO.no rfl rfl rfl ?_
      refine JO.pur rfl rfl rfl (Pur.pickT rfl rfl) ?_
      refine JO.nil ?_
      refine J.condT rfl rfl ?_
      refine J.seq rfl ?_
      refine J.region rfl ?_
      refine JO.pur rfl rfl rfl (Pur.assign rfl) ?_
      refine JO.pur rfl rfl rfl (Pur.assign rfl) ?_
      refine JO.nil ?_
      refine J.ret rfl rfl ?_
      refine ⟨_, _, ⟨none, 0, rfl, rfl⟩, by rw [hv]; rfl, fun h s => ?_⟩
      rw [hv]; exact sl_nil_new (SubC.out h s)
    · try simp only [bSimp, bSimp2, ne_eq] at h19
      refine JO.pur rfl rfl rfl (Pur.move rfl) ?_
      refine JO.pur rfl rfl rfl (Pur.lss rfl rfl) ?_
      refine JO.pur rfl rfl rfl (Pur.pickF rfl rfl) ?_
      refine JO.pur rfl rfl rfl (Pur.move rfl) ?_
      refine JO.splitB 23 rfl (fun h23 => ?_) (fun h23 => ?_)
      · try simp only [bSimp, bSimp2, ne_eq] at h23
        have hv : chV n root q = ([], 2) := if_neg (fun g => by unfold tOk at *; omega)
        refine JO.no rfl rfl rfl ?_
        refine JO.no rfl rfl rfl ?_
        refine JO.no rfl rfl rfl ?_
        refine JO.pur rfl rfl rfl (Pur.pickT rfl rfl) ?_
        refine JO.pur rfl rfl rfl (Pur.move rfl) ?_
        refine JO.no rfl rfl rfl ?_
        refine JO.no rfl rfl rfl ?_
        refine JO.pur rfl rfl rfl (Pur.pickT rfl rfl) ?_
        refine JO.pur rfl rfl rfl (Pur.move rfl) ?_
        refine JO.no rfl rfl rfl ?_
        refine JO.no rfl rfl rfl ?_
        refine JO.no rfl rfl rfl ?_
        refine JO.pur rfl rfl rfl (Pur.pickT rfl rfl) ?_
        refine JO.nil ?_
        refine J.condT rfl rfl ?_
        refine J.seq rfl ?_
        refine J.region rfl ?_
        refine JO.pur rfl rfl rfl (Pur.assign rfl) ?_
        refine JO.pur rfl rfl rfl (Pur.assign rfl) ?_
        refine JO.nil ?_
        refine J.ret rfl rfl ?_
        refine ⟨_, _, ⟨none, 0, rfl, rfl⟩, by rw [hv]; rfl, fun h s => ?_⟩
        rw [hv]; exact sl_nil_new (SubC.out h s)
      · try simp only [bSimp, bSimp2, ne_eq] at h23
        refine JO.pur rfl rfl rfl (Pur.move rfl) ?_
        refine JO.pur rfl rfl rfl (Pur.move rfl) ?_
        refine JO.pur rfl rfl rfl (Pur.geq rfl rfl) ?_
        refine JO.pur rfl rfl rfl (Pur.pickF rfl rfl) ?_
        refine JO.pur rfl rfl rfl (Pur.move rfl) ?_
        refine JO.splitB 28 rfl (fun h28 => ?_) (fun h28 => ?_)
        · try simp only [bSimp, bSimp2, ne_eq] at h28
          have hv : chV n root q = ([], 2) := if_neg (fun g => by unfold tOk at *; omega)
          refine JO.no rfl rfl rfl ?_
          refine JO.no rfl rfl rfl ?_
          refine JO.pur rfl rfl rfl (Pur.pickT rfl rfl) ?_
          refine JO.pur rfl rfl rfl (Pur.move rfl) ?_
          refine JO.no rfl rfl rfl ?_
          refine JO.no rfl rfl rfl ?_
          refine JO.no rfl rfl rfl ?_
          refine JO.pur rfl rfl rfl (Pur.pickT rfl rfl) ?_
          refine JO.nil ?_
          refine J.condT rfl rfl ?_
          refine J.seq rfl ?_
          refine J.region rfl ?_
          refine JO.pur rfl rfl rfl (Pur.assign rfl) ?_
          refine JO.pur rfl rfl rfl (Pur.assign rfl) ?_
          refine JO.nil ?_
          refine J.ret rfl rfl ?_
          refine ⟨_, _, ⟨none, 0, rfl, rfl⟩, by rw [hv]; rfl, fun h s => ?_⟩
          rw [hv]; exact sl_nil_new (SubC.out h s)
        · try simp only [bSimp, bSimp2, ne_eq] at h28
          refine JO.pur rfl rfl rfl (Pur.move rfl) ?_
          refine JO.pur rfl rfl rfl (Pur.lss rfl rfl) ?_
          refine JO.pur rfl rfl rfl (Pur.pickF rfl rfl) ?_
          refine JO.pur rfl rfl rfl (Pur.move rfl) ?_
          refine JO.splitB 32 rfl (fun h32 => ?_) (fun h32 => ?_)
          · try simp only [bSimp, bSimp2, ne_eq] at h32
            have hv : chV n root q = ([], 2) := if_neg (fun g => by unfold tOk at *; omega)
            refine JO.no rfl rfl rfl ?_
            refine JO.no rfl rfl rfl ?_
            refine JO.no rfl rfl rfl ?_
            refine JO.pur rfl rfl rfl (Pur.pickT rfl rfl) ?_
            refine JO.nil ?_
            refine J.condT rfl rfl ?_
            refine J.seq rfl ?_
            refine J.region rfl ?_
            refine JO.pur rfl rfl rfl (Pur.assign rfl) ?_
            refine JO.pur rfl rfl rfl (Pur.assign rfl) ?_
            refine JO.nil ?_
            refine J.ret rfl rfl ?_
            refine ⟨_, _, ⟨none, 0, rfl, rfl⟩, by rw [hv]; rfl, fun h s => ?_⟩
            rw [hv]; exact sl_nil_new (SubC.out h s)
          · try simp only [bSimp, bSimp2, ne_eq] at h32
            refine JO.pur rfl rfl rfl (Pur.move rfl) ?_
            refine JO.pur rfl rfl rfl (Pur.move rfl) ?_
            refine JO.pur rfl rfl rfl (Pur.geq rfl rfl) ?_
            refine JO.pur rfl rfl rfl (Pur.pickF rfl rfl) ?_
            refine JO.nil ?_
            refine J.splitB 36 rfl (fun h36 => ?_) (fun h36 => ?_)
            · try simp only [bSimp, bSimp2, ne_eq] at h36
              have hv : chV n root q = ([], 2) := if_neg (fun g => by unfold tOk at *; omega)
              refine J.condT rfl rfl ?_
              refine J.seq rfl ?_
              refine J.region rfl ?_
              refine JO.pur rfl rfl rfl (Pur.assign rfl) ?_
              refine JO.pur rfl rfl rfl (Pur.assign rfl) ?_
              refine JO.nil ?_
              refine J.ret rfl rfl ?_
              refine ⟨_, _, ⟨none, 0, rfl, rfl⟩, by rw [hv]; rfl, fun h s => ?_⟩
              rw [hv]; exact sl_nil_new (SubC.out h s)
            · try simp only [bSimp, bSimp2, ne_eq] at h36
              have hok : tOk n root q := by unfold tOk; omega
              have hv : chV n root q = (natI (chP n.toNat root.toNat q.toNat), 0) := if_pos hok
              obtain ⟨g1, g2, g3, g4, g5, g6⟩ := hok
              obtain ⟨n, rfl⟩ : ∃ n' : Nat, n = (n' : Int) := ⟨n.toNat, by omega⟩
              obtain ⟨root, rfl⟩ : ∃ n' : Nat, root = (n' : Int) := ⟨root.toNat, by omega⟩
              obtain ⟨q, rfl⟩ : ∃ n' : Nat, q = (n' : Int) := ⟨q.toNat, by omega⟩
              have hce := ch_eq n (by omega) root (by omega) q (by omega)
              refine J.condF rfl rfl ?_
              refine J.skip rfl ?_
              refine J.seq rfl ?_
              refine J.region rfl ?_
              refine JO.pur rfl rfl rfl (Pur.assign rfl) ?_
              refine JO.nil ?_
              refine J.seq rfl ?_
              refine J.seq rfl ?_
              refine J.region rfl ?_
              refine JO.pur rfl rfl rfl (Pur.assign rfl) ?_
              refine JO.nil ?_
              refine J.block rfl ?_
              refine J.loopF (ι := Nat × Option Addr × Nat) (fun z => z.1 + 1 ≤ n) (fun z => [(8, .slice z.2.1 (natI (chR n root q (z.1))).length z.2.2), (9, .int .i64 ((z.1 + 1 : Nat) : Int))]) [(0, _), (1, _), (2, _)] (fun z => sl intE z.2.1 z.2.2 (natI (chR n root q (z.1))) :: L) (fun z => n - z.1) (0, none, 0) rfl (.cons rfl rfl (.cons rfl rfl (.cons rfl rfl .nil))) (.cons rfl rfl (.cons rfl rfl .nil)) (fun h s => by have s2 := sl_nil_new (E := intE) s; exact s2) (by dsimp only; omega) ?_
              rintro ⟨k, a8, c8⟩ hk ihk
              try dsimp only
              dsimp only at hk
              have hcl := chR_len n root q k
              have hnl : (natI (chR n root q (k))).length = (chR n root q (k)).length := by simp [natI]
              refine J.seq rfl ?_
              refine J.seq rfl ?_
              refine J.region rfl ?_
              refine JO.pur rfl rfl rfl (Pur.move rfl) ?_
              refine JO.pur rfl rfl rfl (Pur.move rfl) ?_
              refine JO.pur rfl rfl rfl (Pur.lss rfl rfl) ?_
              refine JO.nil ?_
              refine J.splitB 39 rfl (fun h39 => ?_) (fun h39 => ?_)
              · try simp only [bSimp, bSimp2, ne_eq] at h39
                have hkl : k + 1 < n := by omega
                have hql : (k + 1 + root) % n < n := Nat.mod_lt _ (by omega)
                have hqn := rot_ne n (by omega) root (by omega) k hkl
                have hpv : parV (n : Int) (root : Int) ((((k + 1 + root) % n) : Nat) : Int) = (((parR n root ((k + 1 + root) % n) : Nat) : Int), 0) := by
                  unfold parV
                  rw [if_pos ⟨by unfold tOk; omega, by omega⟩]
                  show (((parP n root ((k + 1 + root) % n) : Nat) : Int), (0 : Int)) = _
                  rw [par_eq n (by omega) root (by omega) _ hql hqn]
                refine J.condT rfl rfl ?_
                refine J.skip rfl ?_
                refine J.seq rfl ?_
                refine J.block rfl ?_
                refine J.seq rfl ?_
                refine J.region rfl ?_
                refine JO.pur rfl rfl rfl (Pur.move rfl) ?_
                refine JO.pur rfl rfl rfl (Pur.move rfl) ?_
                refine JO.pur rfl rfl rfl (Pur.add rfl rfl (wr64 (by omega))) ?_
                refine JO.setv (u' := .int .i64 ((k + 1 + root : Nat) : Int)) 44 rfl rfl ?_
                refine JO.pur rfl rfl rfl (Pur.move rfl) ?_
                refine JO.pur rfl rfl rfl (Pur.rem rfl rfl (by omega)) ?_
                refine JO.setv (u' := .int .i64 ((((k + 1 + root) % n) : Nat) : Int)) 46 rfl (congrArg (Value.int .i64) (tmodN _ _)) ?_
                refine JO.pur rfl rfl rfl (Pur.assign rfl) ?_
                refine JO.nil ?_
                refine J.seq rfl ?_
                refine J.region rfl ?_
                refine JO.pur rfl rfl rfl (Pur.move rfl) ?_
                refine JO.pur rfl rfl rfl (Pur.move rfl) ?_
                refine JO.pur rfl rfl rfl (Pur.move rfl) ?_
                refine JO.effR rfl rfl rfl (Eff.call rfl (rParent_ok (n := (n : Int)) (root := (root : Int)) (q := ((((k + 1 + root) % n) : Nat) : Int)))) ?_
                rw [hpv]
                refine JO.pur rfl rfl rfl (Pur.move rfl) ?_
                refine JO.pur rfl rfl rfl (Pur.extract rfl rfl) ?_
                refine JO.pur rfl rfl rfl (Pur.extract rfl rfl) ?_
                refine JO.pur rfl rfl rfl (Pur.assign rfl) ?_
                refine JO.pur rfl rfl rfl (Pur.assign rfl) ?_
                refine JO.nil ?_
                refine J.seq rfl ?_
                refine J.region rfl ?_
                refine JO.pur rfl rfl rfl (Pur.move rfl) ?_
                refine JO.pur rfl rfl rfl (Pur.move rfl) ?_
                refine JO.pur rfl rfl rfl (Pur.eqlI rfl rfl) ?_
                refine JO.nil ?_
                refine J.splitB 56 rfl (fun h56 => ?_) (fun h56 => ?_)
                · try simp only [bSimp, bSimp2, ne_eq] at h56
                  have hst : (chR n root q (k + 1)) = (chR n root q (k)) ++ [((k + 1 + root) % n)] := by rw [chR_succ, if_pos (by omega)]
                  refine J.condT rfl rfl ?_
                  refine J.region rfl ?_
                  refine JO.pur rfl rfl rfl (Pur.move rfl) ?_
                  refine JO.pur rfl rfl rfl (Pur.move rfl) ?_
                  refine JO.eff rfl rfl rfl (Eff.buildSlice intE [((((k + 1 + root) % n) : Nat) : Int)] rfl rfl rfl rfl rfl rfl rfl) ?_
                  rintro _ _ ⟨b59, rfl, -, rfl⟩
                  refine JO.eff rfl rfl rfl (Eff.append rfl rfl rfl rfl (by first | rfl | omega | (simp; done) | (simp; omega)) (by first | rfl | omega | (simp; done) | (simp; omega)) (by decide) (by rw [hnl]; simp; omega) (by rw [hnl]; simp; omega) (fun h => by cases h)) ?_
                  rintro _ _ ⟨a60, c60, rfl, rfl⟩
                  refine JO.pur rfl rfl rfl (Pur.assign rfl) ?_
                  refine JO.nil ?_
                  refine J.inBlock ?_
                  refine J.region rfl ?_
                  refine JO.pur rfl rfl rfl (Pur.move rfl) ?_
                  refine JO.pur rfl rfl rfl (Pur.add rfl rfl (wr64 (by omega))) ?_
                  refine JO.pur rfl rfl rfl (Pur.assign rfl) ?_
                  refine JO.nil ?_
                  exact J.weaken (.cons rfl (by dsimp only; rw [hst, natI_app, List.length_append]; rfl) (.cons rfl (congrArg (Value.int .i64) (by first | rfl | (dsimp only; omega))) (.cons rfl rfl (.cons rfl rfl (.cons rfl rfl .nil))))) (fun h s => by dsimp only; rw [hst, natI_app, natI_one]; exact SubC.out h s) (ihk (k + 1, a60, c60) (by dsimp only; omega) (by dsimp only; omega))
                · try simp only [bSimp, bSimp2, ne_eq] at h56
                  have hst : (chR n root q (k + 1)) = (chR n root q (k)) := by rw [chR_succ, if_neg (by omega)]
                  refine J.condF rfl rfl ?_
                  refine J.skip rfl ?_
                  refine J.inBlock ?_
                  refine J.region rfl ?_
                  refine JO.pur rfl rfl rfl (Pur.move rfl) ?_
                  refine JO.pur rfl rfl rfl (Pur.add rfl rfl (wr64 (by omega))) ?_
                  refine JO.pur rfl rfl rfl (Pur.assign rfl) ?_
                  refine JO.nil ?_
                  exact J.weaken (.cons rfl (by dsimp only; rw [hst]) (.cons rfl (congrArg (Value.int .i64) (by first | rfl | (dsimp only; omega))) (.cons rfl rfl (.cons rfl rfl (.cons rfl rfl .nil))))) (fun h s => by dsimp only; rw [hst]; exact SubC.out h s) (ihk (k + 1, a8, c8) (by dsimp only; omega) (by dsimp only; omega))
              · try simp only [bSimp, bSimp2, ne_eq] at h39
                have hke : k = n - 1 := by omega
                refine J.condF rfl rfl ?_
                refine J.exit rfl rfl ?_
                refine J.seq rfl ?_
                refine J.region rfl ?_
                refine JO.pur rfl rfl rfl (Pur.move rfl) ?_
                refine JO.pur rfl rfl rfl (Pur.assign rfl) ?_
                refine JO.pur rfl rfl rfl (Pur.assign rfl) ?_
                refine JO.nil ?_
                refine J.ret rfl rfl ?_
                refine ⟨_, _, ⟨a8, c8, rfl, rfl⟩, by rw [hv]; show Value.tuple #[.slice a8 (natI (chR n root q k)).length c8, .int .i64 0] = Value.tuple #[.slice a8 (natI (chP n root q)).length c8, .int .i64 0]; rw [hce, hke], fun h s => ?_⟩
                rw [hv]
                show Sat h (sl intE a8 c8 (natI (chP n root q)) :: L)
                rw [hce, ← hke]
                exact SubC.out h s

end Go.Proofs.Ytoikjjpleonllaa

/- The text GPlain2. -/
set_option linter.unusedVariables false
set_option linter.unusedSimpArgs false
/-! Collectives of a tree, plain. -/
namespace Gr
open Go Go.KK
def sCast : ByteArray := ⟨#[99, 97, 115, 116]⟩
def sAll : ByteArray := ⟨#[97, 108, 108]⟩
def sBar : ByteArray := ⟨#[98, 97, 114, 114, 105, 101, 114]⟩
def rt (g : Gs) : Nat := g.root.toNat
def chG (g : Gs) (p : Nat) : List Nat := chP g.ms.length (rt g) p
/-- Some messages downward. -/
def pk (g : Gs) (p : Nat) (v : Int) (cs : List Nat) : Gs := cs.foldl (fun g c => put g ⟨p, c, v, false, 0⟩) g
def castG (g : Gs) (p : Nat) (v : Int) : Gs := pk (setM g p { mem g p with res := v, has := true }) p v (chG g p)
def getV (m : List (Int × Int)) (c : Nat) : Int := (lookI m (c : Int)).getD 0
def accG (g : Gs) (p : Nat) (cs : List Nat) : Int := cs.foldl (fun a c => opV g.op a (getV (mem g p).got c)) (mem g p).v
def combG (g : Gs) (p : Nat) : Gs :=
  if ¬ p = rt g then put g ⟨p, parP g.ms.length (rt g) p, accG g p (chG g p), true, 0⟩
  else if g.kind = sRed then setM g p { mem g p with res := accG g p (chG g p), has := true }
  else castG g p (accG g p (chG g p))
def begT (g : Gs) : Nat → Gs
  | 0 => g
  | k + 1 => if chG (begT g k) k = [] then combG (begT g k) k else begT g k
def beginG (g : Gs) : Gs := if g.kind = sCast then castG g (rt g) (mem g (rt g)).v else if g.kind = sScan then begS g g.ms.length else begT g g.ms.length
def gotU (g : Gs) (m : Ms) : Mm := { mem g m.to with got := setI (mem g m.to).got (m.fr : Int) m.v }
def upG (g : Gs) (k : Nat) : Gs := setM (takeM g k) (msg g k).to (gotU g (msg g k))
def dlvT (g : Gs) (k : Nat) : Gs :=
  if (msg g k).up = true then
    (if (gotU g (msg g k)).got.length = (chG g (msg g k).to).length then combG (upG g k) (msg g k).to else upG g k)
  else castG (takeM g k) (msg g k).to (msg g k).v
def dlvG (g : Gs) (k : Nat) : Gs := if g.kind = sScan then dlvS g k else dlvT g k
/-- Well-formed, with a root among the members. -/
def wfT (g : Gs) : Prop := wf g ∧ 0 ≤ g.root ∧ g.root < (g.ms.length : Int)
theorem ch_lt {n root p c : Nat} (h : c ∈ chP n root p) (hn : 1 ≤ n) : c < n := by
  have : ∀ bs : List Nat, c ∈ chk n root (rk n root p) bs → c < n := by
    intro bs
    induction bs with
    | nil => intro h; cases h
    | cons b bs ih =>
      intro h; unfold chk at h
      split at h
      · rcases List.mem_cons.1 h with rfl | h
        · exact Nat.mod_lt _ hn
        · exact ih h
      · cases h
  exact this _ h
theorem chP_len (n root p : Nat) : (chP n root p).length ≤ 3 := chk_len n root _ [1, 2, 4]
theorem par_lt {n root p : Nat} (hn : 1 ≤ n) : parP n root p < n := Nat.mod_lt _ hn
/-- What stays the same: how many members, which kind, which root, which operation. -/
def sm (g g' : Gs) : Prop := g'.ms.length = g.ms.length ∧ g'.kind = g.kind ∧ g'.root = g.root ∧ g'.op = g.op
theorem sm.rfl {g : Gs} : sm g g := ⟨.refl _, .refl _, .refl _, .refl _⟩
theorem sm.trans {a b c : Gs} (h : sm a b) (h2 : sm b c) : sm a c := ⟨h2.1.trans h.1, h2.2.1.trans h.2.1, h2.2.2.1.trans h.2.2.1, h2.2.2.2.trans h.2.2.2⟩
theorem sm_put (g : Gs) (m : Ms) : sm g (put g m) := ⟨.refl _, .refl _, .refl _, .refl _⟩
theorem sm_set (g : Gs) (p : Nat) (m : Mm) : sm g (setM g p m) := ⟨set_len _ _ _, .refl _, .refl _, .refl _⟩
theorem sm_pk (p : Nat) (v : Int) : ∀ (cs : List Nat) (g : Gs), sm g (pk g p v cs)
  | [], g => sm.rfl
  | c :: cs, g => (sm_put g _).trans (sm_pk p v cs _)
theorem pk_fly (p : Nat) (v : Int) : ∀ (cs : List Nat) (g : Gs), (pk g p v cs).fly = g.fly ++ cs.map (fun c => (⟨p, c, v, false, 0⟩ : Ms))
  | [], g => (List.append_nil _).symm
  | c :: cs, g => by
    show (pk (put g _) p v cs).fly = _
    rw [pk_fly p v cs, List.map_cons, put]; simp
theorem pk_ms (p : Nat) (v : Int) : ∀ (cs : List Nat) (g : Gs), (pk g p v cs).ms = g.ms
  | [], g => .refl _
  | c :: cs, g => pk_ms p v cs _
theorem pk_snoc (g : Gs) (p : Nat) (v : Int) (cs : List Nat) (c : Nat) : pk g p v (cs ++ [c]) = put (pk g p v cs) ⟨p, c, v, false, 0⟩ := by unfold pk; rw [List.foldl_append]; rfl
theorem wf_pk {g : Gs} (h : wf g) {p : Nat} (hp : p < g.ms.length) (v : Int) (cs : List Nat) (hc : ∀ c ∈ cs, c < g.ms.length) : wf (pk g p v cs) := by
  refine ⟨by rw [pk_ms]; exact h.1, by rw [pk_ms]; exact h.2.1, by rw [pk_ms]; exact h.2.2.1, fun m hm => ?_⟩
  rw [pk_ms]
  rw [pk_fly] at hm
  rcases List.mem_append.1 hm with hm | hm
  · exact h.2.2.2 m hm
  · obtain ⟨c, hc1, rfl⟩ := List.mem_map.1 hm
    exact ⟨hc c hc1, hp, Nat.zero_le _⟩
theorem sm_cast (g : Gs) (p : Nat) (v : Int) : sm g (castG g p v) := (sm_set g p _).trans (sm_pk p v _ _)
theorem wf_cast {g : Gs} (h : wf g) {p : Nat} (hp : p < g.ms.length) (v : Int) : wf (castG g p v) := by
  have h9 := h.2.2.1 _ (mem_mem hp)
  have w1 := wf_set (p := p) (m := { mem g p with res := v, has := true }) h h9
  exact wf_pk w1 (by rw [set_len]; exact hp) v _ fun c hc => by rw [set_len]; exact ch_lt hc h.1
theorem cast_fly (g : Gs) (p : Nat) (v : Int) : (castG g p v).fly.length ≤ g.fly.length + 3 := by
  unfold castG
  rw [pk_fly, List.length_append, List.length_map]
  have := chP_len g.ms.length (rt g) p
  show g.fly.length + (chP g.ms.length (rt g) p).length ≤ _
  omega
theorem sm_comb (g : Gs) (p : Nat) : sm g (combG g p) := by
  unfold combG; split
  · exact sm_put _ _
  · split
    · exact sm_set _ _ _
    · exact sm_cast _ _ _
theorem wf_comb {g : Gs} (h : wf g) {p : Nat} (hp : p < g.ms.length) : wf (combG g p) := by
  unfold combG; split
  · exact wf_put h ⟨par_lt h.1, hp, Nat.zero_le _⟩
  · split
    · have h9 := h.2.2.1 _ (mem_mem hp)
      exact wf_set h h9
    · exact wf_cast h hp _
theorem comb_fly (g : Gs) (p : Nat) : (combG g p).fly.length ≤ g.fly.length + 3 := by
  unfold combG; split
  · simp [put]
  · split
    · show g.fly.length ≤ _; omega
    · exact cast_fly _ _ _
theorem begT_keep {g : Gs} (h : wf g) : ∀ k, k ≤ g.ms.length → wf (begT g k) ∧ sm g (begT g k) ∧ (begT g k).fly.length ≤ g.fly.length + 3 * k
  | 0, _ => ⟨h, sm.rfl, Nat.le_refl _⟩
  | k + 1, hk => by
    obtain ⟨a1, a2, a3⟩ := begT_keep h k (by omega)
    unfold begT; split
    · have := comb_fly (begT g k) k
      exact ⟨wf_comb a1 (by have := a2.1; omega), a2.trans (sm_comb _ _), by omega⟩
    · exact ⟨a1, a2, by omega⟩
theorem sm.wfT {g g' : Gs} (h : sm g g') (w : wf g') (ht : wfT g) : wfT g' := ⟨w, by rw [h.2.2.1]; exact ht.2.1, by rw [h.2.2.1, h.1]; exact ht.2.2⟩
end Gr
