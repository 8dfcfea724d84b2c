/-
  A part of the proof of the claim that this folder bears.
-/
import Derived.Test.YtnhippfllgnngaaPAD
import Derived.Test.YtnhippfllgnngaaPAA
import Derived.Test.YtnhippfllgnngaaKC
/- The text SC3. -/
set_option linter.unusedVariables false
set_option linter.unusedSimpArgs false
set_option maxRecDepth 10000
namespace Go.Proofs.Ytnhippfllgnngaa
open Go Go.KK Dm

/-- A list of which i at each end have changed places. -/
def rvL {α : Type} [Inhabited α] (xs : List α) (i : Nat) : List α := (List.range xs.length).map fun k => if k < i ∨ xs.length - 1 - k < i then xs.getD (xs.length - 1 - k) default else xs.getD k default
theorem rvL_len {α : Type} [Inhabited α] (xs : List α) (i : Nat) : (rvL xs i).length = xs.length := by simp [rvL]
theorem getD_some {α : Type} [Inhabited α] {xs : List α} {k : Nat} (h : k < xs.length) : xs[k]? = some (xs.getD k default) := by
  rw [List.getD_eq_getElem?_getD, List.getElem?_eq_getElem h]; rfl
theorem rvL_get {α : Type} [Inhabited α] {xs : List α} {i k : Nat} (h : k < xs.length) : (rvL xs i)[k]? = some (if k < i ∨ xs.length - 1 - k < i then xs.getD (xs.length - 1 - k) default else xs.getD k default) := by
  unfold rvL; rw [List.getElem?_map, List.getElem?_range h]; rfl
theorem rvL_zero {α : Type} [Inhabited α] (xs : List α) : rvL xs 0 = xs := by
  apply List.ext_getElem?
  intro k
  by_cases h : k < xs.length
  · rw [rvL_get h, if_neg (by omega), getD_some h]
  · rw [List.getElem?_eq_none (by rw [rvL_len]; omega), List.getElem?_eq_none (by omega)]
theorem rvL_step {α : Type} [Inhabited α] {xs : List α} {i : Nat} (h : i < xs.length - 1 - i) : ((rvL xs i).set i (xs.getD (xs.length - 1 - i) default)).set (xs.length - 1 - i) (xs.getD i default) = rvL xs (i + 1) := by
  apply List.ext_getElem?
  intro k
  by_cases hk : k < xs.length
  · rw [List.getElem?_set, List.getElem?_set, rvL_get hk, rvL_get hk, List.length_set, rvL_len]
    by_cases e1 : xs.length - 1 - i = k
    · rw [if_pos e1, if_pos (by omega), if_pos (by omega), show xs.length - 1 - k = i by omega]
    · rw [if_neg e1]
      by_cases e2 : i = k
      · rw [if_pos e2, if_pos (by omega), if_pos (by omega), e2]
      · rw [if_neg e2]
        congr 1
        by_cases h3 : k < i ∨ xs.length - 1 - k < i
        · rw [if_pos h3, if_pos (by omega)]
        · rw [if_neg h3, if_neg (by omega)]
  · rw [List.getElem?_eq_none (by simp [rvL_len]; omega), List.getElem?_eq_none (by rw [rvL_len]; omega)]
theorem rvL_all {α : Type} [Inhabited α] {xs : List α} {i : Nat} (h : xs.length - 1 - i ≤ i) : rvL xs i = xs.reverse := by
  apply List.ext_getElem?
  intro k
  by_cases hk : k < xs.length
  · rw [rvL_get hk, List.getElem?_reverse hk]
    by_cases h3 : k < i ∨ xs.length - 1 - k < i
    · rw [if_pos h3, getD_some (by omega)]
    · rw [if_neg h3, show xs.length - 1 - k = k by omega, getD_some hk]
  · rw [List.getElem?_eq_none (by rw [rvL_len]; omega), List.getElem?_eq_none (by simp; omega)]
theorem revR_ok {L : List Asn} {a : Option Addr} {n cap : Nat} {xs : List Rg} (hn : n = xs.length) (hb : xs.length ≤ 17592186044416) :
    CallS Try.prog 158 [.slice a n cap].toArray (sl rgE a cap xs :: L) (fun v M => v = .tuple #[] ∧ M = sl rgE a cap xs.reverse :: L) := by
  subst hn
  refine CallS.ent ?_
  refine CallS.enter Try.func158 rfl rfl rfl rfl rfl ?_
  refine J.seq rfl ?_
  refine J.region rfl ?_
  refine JO.pur rfl rfl rfl (Pur.move rfl) ?_
  refine JO.pur rfl rfl rfl (Pur.len rfl) ?_
  refine JO.pur rfl rfl rfl (Pur.sub rfl rfl (wr64 (by omega))) ?_
  refine JO.pur rfl rfl rfl (Pur.assign rfl) ?_
  refine JO.pur rfl rfl rfl (Pur.assign rfl) ?_
  refine JO.nil ?_
  refine J.block rfl ?_
  refine J.loopF (ι := Nat) (fun q => q ≤ xs.length) (fun q => [(2, .int .i64 (q : Int)), (3, .int .i64 ((xs.length : Int) - 1 - q))]) [(0, _)] (fun q => sl rgE a cap (rvL xs q) :: L) (fun q => xs.length - q) 0 rfl (.cons rfl rfl .nil) (.cons rfl rfl (.cons rfl (congrArg (Value.int .i64) (by omega)) .nil)) (fun h s => by rw [rvL_zero]; exact SubC.out h s) (Nat.zero_le _) ?_
  rintro k hk ih0
  try dsimp only
  refine J.seq rfl ?_
  refine J.seq rfl ?_
  refine J.region rfl ?_
  refine JO.pur rfl rfl rfl (Pur.move rfl) ?_
  refine JO.pur rfl rfl rfl (Pur.move rfl) ?_
  refine JO.pur rfl rfl rfl (Pur.lss rfl rfl) ?_
  refine JO.nil ?_
  refine J.splitB 9 rfl (fun h9 => ?_) (fun h9 => ?_)
  · try simp only [decide_eq_true_eq, decide_eq_false_iff_not, Bool.not_eq_true', Bool.not_eq_false', Bool.and_eq_true, Bool.or_eq_true, Bool.and_eq_false_iff, Bool.or_eq_false_iff, Option.isNone_some, Option.isSome_some, Option.isNone_none, Option.isSome_none, Int.not_lt, Int.not_le, beq_iff_eq, beq_eq_false_iff_ne, bne_iff_ne, ne_eq, Bool.not_not, Decidable.not_not] at h9
    have hkl : k < xs.length - 1 - k := by omega
    have hst := rvL_step hkl
    have hrl := rvL_len xs k
    have hxk : (rvL xs k)[k]? = some (xs.getD k default) := by rw [rvL_get (by omega), if_neg (by omega)]
    have hxj : (rvL xs k)[xs.length - 1 - k]? = some (xs.getD (xs.length - 1 - k) default) := by rw [rvL_get (by omega), if_neg (by omega)]
    have hjj : (xs.length : Int) - 1 - (k : Int) = ((xs.length - 1 - k : Nat) : Int) := by omega
    refine J.condT rfl rfl ?_
    refine J.skip rfl ?_
    refine J.seq rfl ?_
    refine J.block rfl ?_
    refine J.mask0 (n := 16) [13, 15] rfl Try.mixed rfl (by kernel_rfl) ?_
    refine JM.take 0 (fun _ h => h) rfl (by kernel_rfl) rfl rfl rfl (m' := 1) rfl (Pur.move rfl) ?_
    refine JM.take 1 (fun _ h => h) rfl (by kernel_rfl) rfl rfl rfl (m' := 3) rfl (Pur.move rfl) ?_
    refine JM.take 4 (fun _ h => h) rfl (by kernel_rfl) rfl rfl rfl (m' := 19) rfl (Pur.move rfl) ?_
    refine JM.take 5 (fun _ h => h) rfl (by kernel_rfl) rfl rfl rfl (m' := 51) rfl (Pur.move rfl) ?_
    refine JM.take 6 (fun _ h => h) rfl (by kernel_rfl) rfl rfl rfl (m' := 115) rfl (Pur.idx rfl rfl rfl (by first | rfl | (simp; done) | omega | (rw [List.length_set, hrl])) hjj (by omega)) ?_
    refine JM.take 7 (fun _ h => h) rfl (by kernel_rfl) rfl rfl rfl (m' := 243) rfl (Pur.loadA rfl rfl rfl (CellsIn.el rfl hxj)) ?_
    refine JM.setv (u' := rgV (xs.getD (xs.length - 1 - k) default)) 21 rfl rfl ?_
    refine JM.take 8 (fun _ h => h) rfl (by kernel_rfl) rfl rfl rfl (m' := 499) rfl (Pur.move rfl) ?_
    refine JM.take 9 (fun _ h => h) rfl (by kernel_rfl) rfl rfl rfl (m' := 1011) rfl (Pur.move rfl) ?_
    refine JM.take 10 (fun _ h => h) rfl (by kernel_rfl) rfl rfl rfl (m' := 2035) rfl (Pur.idx rfl rfl rfl (by first | rfl | (simp; done) | omega | (rw [List.length_set, hrl])) rfl (by omega)) ?_
    refine JM.take 11 (fun _ h => h) rfl (by kernel_rfl) rfl rfl rfl (m' := 4083) rfl (Pur.loadA rfl rfl rfl (CellsIn.el rfl hxk)) ?_
    refine JM.setv (u' := rgV (xs.getD k default)) 25 rfl rfl ?_
    refine JM.take 12 (fun _ h => h) rfl (by kernel_rfl) rfl rfl rfl (m' := 8179) rfl (Pur.idx rfl rfl rfl (by first | rfl | (simp; done) | omega | (rw [List.length_set, hrl])) rfl (by omega)) ?_
    refine JM.many (rs := [2, 3, 13]) (by kernel_rfl) rfl (fun i hi => ?_)
    simp only [List.mem_cons, List.not_mem_nil, or_false] at hi
    rcases hi with rfl | rfl | rfl
    · skip
      refine JMi.eff rfl rfl rfl rfl (m' := 8183) rfl (Pur.eff (Pur.move rfl)) ?_
      rintro _ _ ⟨rfl, rfl⟩
      refine ⟨.inr (fun _ h => h), ?_⟩
      refine JM.many (rs := [3, 13]) (by kernel_rfl) rfl (fun i hi => ?_)
      simp only [List.mem_cons, List.not_mem_nil, or_false] at hi
      rcases hi with rfl | rfl
      · skip
        refine JMi.eff rfl rfl rfl rfl (m' := 8191) rfl (Pur.eff (Pur.move rfl)) ?_
        rintro _ _ ⟨rfl, rfl⟩
        refine ⟨.inr (fun _ h => h), ?_⟩
        refine JM.one (i := 13) (by kernel_rfl) ?_
        refine JMi.effN rfl rfl rfl (m' := 16383) rfl (Eff.storeSA (z' := (xs.getD (xs.length - 1 - k) default)) rfl rfl rfl rfl (by omega) rfl) ?_
        rintro _ _ ⟨rfl, rfl⟩
        refine ⟨.inl (by simp), ?_⟩
        refine JM.one (i := 14) (by kernel_rfl) ?_
        refine JMi.eff rfl rfl rfl rfl (m' := 32767) rfl (Pur.eff (Pur.idx rfl rfl rfl (by first | rfl | (simp; done) | omega | (rw [List.length_set, hrl])) hjj (by rw [List.length_set]; omega))) ?_
        rintro _ _ ⟨rfl, rfl⟩
        refine ⟨.inl (.inr (by kernel_rfl)), ?_⟩
        refine JM.one (i := 15) (by kernel_rfl) ?_
        refine JMi.effN rfl rfl rfl (m' := 65535) rfl (Eff.storeSA (z' := (xs.getD k default)) rfl rfl rfl rfl (by rw [List.length_set]; omega) rfl) ?_
        rintro _ _ ⟨rfl, rfl⟩
        refine ⟨.inl (by simp), ?_⟩
        refine JM.done rfl ?_
        refine J.inBlock ?_
        refine J.region rfl ?_
        refine JO.pur rfl rfl rfl (Pur.move rfl) ?_
        refine JO.pur rfl rfl rfl (Pur.add rfl rfl (wr64 (by omega))) ?_
        refine JO.pur rfl rfl rfl (Pur.move rfl) ?_
        refine JO.pur rfl rfl rfl (Pur.sub rfl rfl (wr64 (by omega))) ?_
        refine JO.pur rfl rfl rfl (Pur.assign rfl) ?_
        refine JO.pur rfl rfl rfl (Pur.assign rfl) ?_
        refine JO.nil ?_
        exact J.weaken (.cons rfl (congrArg (Value.int .i64) (by first | rfl | (dsimp only; omega))) (.cons rfl (congrArg (Value.int .i64) (by omega)) (.cons rfl rfl .nil))) (fun h s => by rw [hst] at s; exact SubC.out h s) (ih0 (k + 1) (by omega) (by omega))
      · skip
        refine JMi.effN rfl rfl rfl (m' := 16375) rfl (Eff.storeSA (z' := (xs.getD (xs.length - 1 - k) default)) rfl rfl rfl rfl (by omega) rfl) ?_
        rintro _ _ ⟨rfl, rfl⟩
        refine ⟨.inl (by simp), ?_⟩
        refine JM.one (i := 3) (by kernel_rfl) ?_
        refine JMi.eff rfl rfl rfl rfl (m' := 16383) rfl (Pur.eff (Pur.move rfl)) ?_
        rintro _ _ ⟨rfl, rfl⟩
        refine ⟨.inl (.inr (by kernel_rfl)), ?_⟩
        refine JM.one (i := 14) (by kernel_rfl) ?_
        refine JMi.eff rfl rfl rfl rfl (m' := 32767) rfl (Pur.eff (Pur.idx rfl rfl rfl (by first | rfl | (simp; done) | omega | (rw [List.length_set, hrl])) hjj (by rw [List.length_set]; omega))) ?_
        rintro _ _ ⟨rfl, rfl⟩
        refine ⟨.inl (.inr (by kernel_rfl)), ?_⟩
        refine JM.one (i := 15) (by kernel_rfl) ?_
        refine JMi.effN rfl rfl rfl (m' := 65535) rfl (Eff.storeSA (z' := (xs.getD k default)) rfl rfl rfl rfl (by rw [List.length_set]; omega) rfl) ?_
        rintro _ _ ⟨rfl, rfl⟩
        refine ⟨.inl (by simp), ?_⟩
        refine JM.done rfl ?_
        refine J.inBlock ?_
        refine J.region rfl ?_
        refine JO.pur rfl rfl rfl (Pur.move rfl) ?_
        refine JO.pur rfl rfl rfl (Pur.add rfl rfl (wr64 (by omega))) ?_
        refine JO.pur rfl rfl rfl (Pur.move rfl) ?_
        refine JO.pur rfl rfl rfl (Pur.sub rfl rfl (wr64 (by omega))) ?_
        refine JO.pur rfl rfl rfl (Pur.assign rfl) ?_
        refine JO.pur rfl rfl rfl (Pur.assign rfl) ?_
        refine JO.nil ?_
        exact J.weaken (.cons rfl (congrArg (Value.int .i64) (by first | rfl | (dsimp only; omega))) (.cons rfl (congrArg (Value.int .i64) (by omega)) (.cons rfl rfl .nil))) (fun h s => by rw [hst] at s; exact SubC.out h s) (ih0 (k + 1) (by omega) (by omega))
    · skip
      refine JMi.eff rfl rfl rfl rfl (m' := 8187) rfl (Pur.eff (Pur.move rfl)) ?_
      rintro _ _ ⟨rfl, rfl⟩
      refine ⟨.inr (fun _ h => h), ?_⟩
      refine JM.many (rs := [2, 13]) (by kernel_rfl) rfl (fun i hi => ?_)
      simp only [List.mem_cons, List.not_mem_nil, or_false] at hi
      rcases hi with rfl | rfl
      · skip
        refine JMi.eff rfl rfl rfl rfl (m' := 8191) rfl (Pur.eff (Pur.move rfl)) ?_
        rintro _ _ ⟨rfl, rfl⟩
        refine ⟨.inr (fun _ h => h), ?_⟩
        refine JM.one (i := 13) (by kernel_rfl) ?_
        refine JMi.effN rfl rfl rfl (m' := 16383) rfl (Eff.storeSA (z' := (xs.getD (xs.length - 1 - k) default)) rfl rfl rfl rfl (by omega) rfl) ?_
        rintro _ _ ⟨rfl, rfl⟩
        refine ⟨.inl (by simp), ?_⟩
        refine JM.one (i := 14) (by kernel_rfl) ?_
        refine JMi.eff rfl rfl rfl rfl (m' := 32767) rfl (Pur.eff (Pur.idx rfl rfl rfl (by first | rfl | (simp; done) | omega | (rw [List.length_set, hrl])) hjj (by rw [List.length_set]; omega))) ?_
        rintro _ _ ⟨rfl, rfl⟩
        refine ⟨.inl (.inr (by kernel_rfl)), ?_⟩
        refine JM.one (i := 15) (by kernel_rfl) ?_
        refine JMi.effN rfl rfl rfl (m' := 65535) rfl (Eff.storeSA (z' := (xs.getD k default)) rfl rfl rfl rfl (by rw [List.length_set]; omega) rfl) ?_
        rintro _ _ ⟨rfl, rfl⟩
        refine ⟨.inl (by simp), ?_⟩
        refine JM.done rfl ?_
        refine J.inBlock ?_
        refine J.region rfl ?_
        refine JO.pur rfl rfl rfl (Pur.move rfl) ?_
        refine JO.pur rfl rfl rfl (Pur.add rfl rfl (wr64 (by omega))) ?_
        refine JO.pur rfl rfl rfl (Pur.move rfl) ?_
        refine JO.pur rfl rfl rfl (Pur.sub rfl rfl (wr64 (by omega))) ?_
        refine JO.pur rfl rfl rfl (Pur.assign rfl) ?_
        refine JO.pur rfl rfl rfl (Pur.assign rfl) ?_
        refine JO.nil ?_
        exact J.weaken (.cons rfl (congrArg (Value.int .i64) (by first | rfl | (dsimp only; omega))) (.cons rfl (congrArg (Value.int .i64) (by omega)) (.cons rfl rfl .nil))) (fun h s => by rw [hst] at s; exact SubC.out h s) (ih0 (k + 1) (by omega) (by omega))
      · skip
        refine JMi.effN rfl rfl rfl (m' := 16379) rfl (Eff.storeSA (z' := (xs.getD (xs.length - 1 - k) default)) rfl rfl rfl rfl (by omega) rfl) ?_
        rintro _ _ ⟨rfl, rfl⟩
        refine ⟨.inl (by simp), ?_⟩
        refine JM.one (i := 2) (by kernel_rfl) ?_
        refine JMi.eff rfl rfl rfl rfl (m' := 16383) rfl (Pur.eff (Pur.move rfl)) ?_
        rintro _ _ ⟨rfl, rfl⟩
        refine ⟨.inl (.inr (by kernel_rfl)), ?_⟩
        refine JM.one (i := 14) (by kernel_rfl) ?_
        refine JMi.eff rfl rfl rfl rfl (m' := 32767) rfl (Pur.eff (Pur.idx rfl rfl rfl (by first | rfl | (simp; done) | omega | (rw [List.length_set, hrl])) hjj (by rw [List.length_set]; omega))) ?_
        rintro _ _ ⟨rfl, rfl⟩
        refine ⟨.inl (.inr (by kernel_rfl)), ?_⟩
        refine JM.one (i := 15) (by kernel_rfl) ?_
        refine JMi.effN rfl rfl rfl (m' := 65535) rfl (Eff.storeSA (z' := (xs.getD k default)) rfl rfl rfl rfl (by rw [List.length_set]; omega) rfl) ?_
        rintro _ _ ⟨rfl, rfl⟩
        refine ⟨.inl (by simp), ?_⟩
        refine JM.done rfl ?_
        refine J.inBlock ?_
        refine J.region rfl ?_
        refine JO.pur rfl rfl rfl (Pur.move rfl) ?_
        refine JO.pur rfl rfl rfl (Pur.add rfl rfl (wr64 (by omega))) ?_
        refine JO.pur rfl rfl rfl (Pur.move rfl) ?_
        refine JO.pur rfl rfl rfl (Pur.sub rfl rfl (wr64 (by omega))) ?_
        refine JO.pur rfl rfl rfl (Pur.assign rfl) ?_
        refine JO.pur rfl rfl rfl (Pur.assign rfl) ?_
        refine JO.nil ?_
        exact J.weaken (.cons rfl (congrArg (Value.int .i64) (by first | rfl | (dsimp only; omega))) (.cons rfl (congrArg (Value.int .i64) (by omega)) (.cons rfl rfl .nil))) (fun h s => by rw [hst] at s; exact SubC.out h s) (ih0 (k + 1) (by omega) (by omega))
    · skip
      refine JMi.effN rfl rfl rfl (m' := 16371) rfl (Eff.storeSA (z' := (xs.getD (xs.length - 1 - k) default)) rfl rfl rfl rfl (by omega) rfl) ?_
      rintro _ _ ⟨rfl, rfl⟩
      refine ⟨.inl (by simp), ?_⟩
      refine JM.many (rs := [2, 3]) (by kernel_rfl) rfl (fun i hi => ?_)
      simp only [List.mem_cons, List.not_mem_nil, or_false] at hi
      rcases hi with rfl | rfl
      · skip
        refine JMi.eff rfl rfl rfl rfl (m' := 16375) rfl (Pur.eff (Pur.move rfl)) ?_
        rintro _ _ ⟨rfl, rfl⟩
        refine ⟨.inl (.inr (by kernel_rfl)), ?_⟩
        refine JM.one (i := 3) (by kernel_rfl) ?_
        refine JMi.eff rfl rfl rfl rfl (m' := 16383) rfl (Pur.eff (Pur.move rfl)) ?_
        rintro _ _ ⟨rfl, rfl⟩
        refine ⟨.inl (.inr (by kernel_rfl)), ?_⟩
        refine JM.one (i := 14) (by kernel_rfl) ?_
        refine JMi.eff rfl rfl rfl rfl (m' := 32767) rfl (Pur.eff (Pur.idx rfl rfl rfl (by first | rfl | (simp; done) | omega | (rw [List.length_set, hrl])) hjj (by rw [List.length_set]; omega))) ?_
        rintro _ _ ⟨rfl, rfl⟩
        refine ⟨.inl (.inr (by kernel_rfl)), ?_⟩
        refine JM.one (i := 15) (by kernel_rfl) ?_
        refine JMi.effN rfl rfl rfl (m' := 65535) rfl (Eff.storeSA (z' := (xs.getD k default)) rfl rfl rfl rfl (by rw [List.length_set]; omega) rfl) ?_
        rintro _ _ ⟨rfl, rfl⟩
        refine ⟨.inl (by simp), ?_⟩
        refine JM.done rfl ?_
        refine J.inBlock ?_
        refine J.region rfl ?_
        refine JO.pur rfl rfl rfl (Pur.move rfl) ?_
        refine JO.pur rfl rfl rfl (Pur.add rfl rfl (wr64 (by omega))) ?_
        refine JO.pur rfl rfl rfl (Pur.move rfl) ?_
        refine JO.pur rfl rfl rfl (Pur.sub rfl rfl (wr64 (by omega))) ?_
        refine JO.pur rfl rfl rfl (Pur.assign rfl) ?_
        refine JO.pur rfl rfl rfl (Pur.assign rfl) ?_
        refine JO.nil ?_
        exact J.weaken (.cons rfl (congrArg (Value.int .i64) (by first | rfl | (dsimp only; omega))) (.cons rfl (congrArg (Value.int .i64) (by omega)) (.cons rfl rfl .nil))) (fun h s => by rw [hst] at s; exact SubC.out h s) (ih0 (k + 1) (by omega) (by omega))
      · skip
        refine JMi.eff rfl rfl rfl rfl (m' := 16379) rfl (Pur.eff (Pur.move rfl)) ?_
        rintro _ _ ⟨rfl, rfl⟩
        refine ⟨.inl (.inr (by kernel_rfl)), ?_⟩
        refine JM.one (i := 2) (by kernel_rfl) ?_
        refine JMi.eff rfl rfl rfl rfl (m' := 16383) rfl (Pur.eff (Pur.move rfl)) ?_
        rintro _ _ ⟨rfl, rfl⟩
        refine ⟨.inl (.inr (by kernel_rfl)), ?_⟩
        refine JM.one (i := 14) (by kernel_rfl) ?_
        refine JMi.eff rfl rfl rfl rfl (m' := 32767) rfl (Pur.eff (Pur.idx rfl rfl rfl (by first | rfl | (simp; done) | omega | (rw [List.length_set, hrl])) hjj (by rw [List.length_set]; omega))) ?_
        rintro _ _ ⟨rfl, rfl⟩
        refine ⟨.inl (.inr (by kernel_rfl)), ?_⟩
        refine JM.one (i := 15) (by kernel_rfl) ?_
        refine JMi.effN rfl rfl rfl (m' := 65535) rfl (Eff.storeSA (z' := (xs.getD k default)) rfl rfl rfl rfl (by rw [List.length_set]; omega) rfl) ?_
        rintro _ _ ⟨rfl, rfl⟩
        refine ⟨.inl (by simp), ?_⟩
        refine JM.done rfl ?_
        refine J.inBlock ?_
        refine J.region rfl ?_
        refine JO.pur rfl rfl rfl (Pur.move rfl) ?_
        refine JO.pur rfl rfl rfl (Pur.add rfl rfl (wr64 (by omega))) ?_
        refine JO.pur rfl rfl rfl (Pur.move rfl) ?_
        refine JO.pur rfl rfl rfl (Pur.sub rfl rfl (wr64 (by omega))) ?_
        refine JO.pur rfl rfl rfl (Pur.assign rfl) ?_
        refine JO.pur rfl rfl rfl (Pur.assign rfl) ?_
        refine JO.nil ?_
        exact J.weaken (.cons rfl (congrArg (Value.int .i64) (by first | rfl | (dsimp only; omega))) (.cons rfl (congrArg (Value.int .i64) (by omega)) (.cons rfl rfl .nil))) (fun h s => by rw [hst] at s; exact SubC.out h s) (ih0 (k + 1) (by omega) (by omega))
  · try simp only [decide_eq_true_eq, decide_eq_false_iff_not, Bool.not_eq_true', Bool.not_eq_false', Bool.and_eq_true, Bool.or_eq_true, Bool.and_eq_false_iff, Bool.or_eq_false_iff, Option.isNone_some, Option.isSome_some, Option.isNone_none, Option.isSome_none, Int.not_lt, Int.not_le, beq_iff_eq, beq_eq_false_iff_ne, bne_iff_ne, ne_eq, Bool.not_not, Decidable.not_not] at h9
    refine J.condF rfl rfl ?_
    refine J.exit rfl rfl ?_
    refine J.fin rfl ?_
    obtain hke : xs.length - 1 - k ≤ k := by omega
    refine ⟨_, _, ⟨rfl, rfl⟩, rfl, fun h s => ?_⟩
    rw [rvL_all hke] at s
    exact SubC.out h s

end Go.Proofs.Ytnhippfllgnngaa

/- The text SC4. -/
set_option linter.unusedVariables false
set_option linter.unusedSimpArgs false
set_option maxRecDepth 10000
namespace Go.Proofs.Ytnhippfllgnngaa
open Go Go.KK Dm

theorem revI_ok {L : List Asn} {a : Option Addr} {n cap : Nat} {xs : List Int} (hn : n = xs.length) (hb : xs.length ≤ 17592186044416) :
    CallS Try.prog 111 [.slice a n cap].toArray (sl intE a cap xs :: L) (fun v M => v = .tuple #[] ∧ M = sl intE a cap xs.reverse :: L) := by
  subst hn
  refine CallS.ent ?_
  refine CallS.enter Try.func111 rfl rfl rfl rfl rfl ?_
  refine J.seq rfl ?_
  refine J.region rfl ?_
  refine JO.pur rfl rfl rfl (Pur.move rfl) ?_
  refine JO.pur rfl rfl rfl (Pur.len rfl) ?_
  refine JO.pur rfl rfl rfl (Pur.sub rfl rfl (wr64 (by omega))) ?_
  refine JO.pur rfl rfl rfl (Pur.assign rfl) ?_
  refine JO.pur rfl rfl rfl (Pur.assign rfl) ?_
  refine JO.nil ?_
  refine J.block rfl ?_
  refine J.loopF (ι := Nat) (fun q => q ≤ xs.length) (fun q => [(2, .int .i64 (q : Int)), (3, .int .i64 ((xs.length : Int) - 1 - q))]) [(0, _)] (fun q => sl intE a cap (rvL xs q) :: L) (fun q => xs.length - q) 0 rfl (.cons rfl rfl .nil) (.cons rfl rfl (.cons rfl (congrArg (Value.int .i64) (by omega)) .nil)) (fun h s => by rw [rvL_zero]; exact SubC.out h s) (Nat.zero_le _) ?_
  rintro k hk ih0
  try dsimp only
  refine J.seq rfl ?_
  refine J.seq rfl ?_
  refine J.region rfl ?_
  refine JO.pur rfl rfl rfl (Pur.move rfl) ?_
  refine JO.pur rfl rfl rfl (Pur.move rfl) ?_
  refine JO.pur rfl rfl rfl (Pur.lss rfl rfl) ?_
  refine JO.nil ?_
  refine J.splitB 9 rfl (fun h9 => ?_) (fun h9 => ?_)
  · try simp only [decide_eq_true_eq, decide_eq_false_iff_not, Bool.not_eq_true', Bool.not_eq_false', Bool.and_eq_true, Bool.or_eq_true, Bool.and_eq_false_iff, Bool.or_eq_false_iff, Option.isNone_some, Option.isSome_some, Option.isNone_none, Option.isSome_none, Int.not_lt, Int.not_le, beq_iff_eq, beq_eq_false_iff_ne, bne_iff_ne, ne_eq, Bool.not_not, Decidable.not_not] at h9
    have hkl : k < xs.length - 1 - k := by omega
    have hst := rvL_step hkl
    have hrl := rvL_len xs k
    have hxk : (rvL xs k)[k]? = some (xs.getD k default) := by rw [rvL_get (by omega), if_neg (by omega)]
    have hxj : (rvL xs k)[xs.length - 1 - k]? = some (xs.getD (xs.length - 1 - k) default) := by rw [rvL_get (by omega), if_neg (by omega)]
    have hjj : (xs.length : Int) - 1 - (k : Int) = ((xs.length - 1 - k : Nat) : Int) := by omega
    refine J.condT rfl rfl ?_
    refine J.skip rfl ?_
    refine J.seq rfl ?_
    refine J.block rfl ?_
    refine J.mask0 (n := 16) [13, 15] rfl Try.mixed rfl (by kernel_rfl) ?_
    refine JM.take 0 (fun _ h => h) rfl (by kernel_rfl) rfl rfl rfl (m' := 1) rfl (Pur.move rfl) ?_
    refine JM.take 1 (fun _ h => h) rfl (by kernel_rfl) rfl rfl rfl (m' := 3) rfl (Pur.move rfl) ?_
    refine JM.take 4 (fun _ h => h) rfl (by kernel_rfl) rfl rfl rfl (m' := 19) rfl (Pur.move rfl) ?_
    refine JM.take 5 (fun _ h => h) rfl (by kernel_rfl) rfl rfl rfl (m' := 51) rfl (Pur.move rfl) ?_
    refine JM.take 6 (fun _ h => h) rfl (by kernel_rfl) rfl rfl rfl (m' := 115) rfl (Pur.idx rfl rfl rfl (by first | rfl | (simp; done) | omega | (rw [List.length_set, hrl])) hjj (by omega)) ?_
    refine JM.take 7 (fun _ h => h) rfl (by kernel_rfl) rfl rfl rfl (m' := 243) rfl (Pur.load rfl (CellIn.el0 rfl hxj rfl)) ?_
    refine JM.setv (u' := .int .i64 (xs.getD (xs.length - 1 - k) default)) 21 rfl rfl ?_
    refine JM.take 8 (fun _ h => h) rfl (by kernel_rfl) rfl rfl rfl (m' := 499) rfl (Pur.move rfl) ?_
    refine JM.take 9 (fun _ h => h) rfl (by kernel_rfl) rfl rfl rfl (m' := 1011) rfl (Pur.move rfl) ?_
    refine JM.take 10 (fun _ h => h) rfl (by kernel_rfl) rfl rfl rfl (m' := 2035) rfl (Pur.idx rfl rfl rfl (by first | rfl | (simp; done) | omega | (rw [List.length_set, hrl])) rfl (by omega)) ?_
    refine JM.take 11 (fun _ h => h) rfl (by kernel_rfl) rfl rfl rfl (m' := 4083) rfl (Pur.load rfl (CellIn.el0 rfl hxk rfl)) ?_
    refine JM.setv (u' := .int .i64 (xs.getD k default)) 25 rfl rfl ?_
    refine JM.take 12 (fun _ h => h) rfl (by kernel_rfl) rfl rfl rfl (m' := 8179) rfl (Pur.idx rfl rfl rfl (by first | rfl | (simp; done) | omega | (rw [List.length_set, hrl])) rfl (by omega)) ?_
    refine JM.many (rs := [2, 3, 13]) (by kernel_rfl) rfl (fun i hi => ?_)
    simp only [List.mem_cons, List.not_mem_nil, or_false] at hi
    rcases hi with rfl | rfl | rfl
    · skip
      refine JMi.eff rfl rfl rfl rfl (m' := 8183) rfl (Pur.eff (Pur.move rfl)) ?_
      rintro _ _ ⟨rfl, rfl⟩
      refine ⟨.inr (fun _ h => h), ?_⟩
      refine JM.many (rs := [3, 13]) (by kernel_rfl) rfl (fun i hi => ?_)
      simp only [List.mem_cons, List.not_mem_nil, or_false] at hi
      rcases hi with rfl | rfl
      · skip
        refine JMi.eff rfl rfl rfl rfl (m' := 8191) rfl (Pur.eff (Pur.move rfl)) ?_
        rintro _ _ ⟨rfl, rfl⟩
        refine ⟨.inr (fun _ h => h), ?_⟩
        refine JM.one (i := 13) (by kernel_rfl) ?_
        refine JMi.effN rfl rfl rfl (m' := 16383) rfl (Eff.storeS0 (z' := (xs.getD (xs.length - 1 - k) default)) rfl rfl rfl rfl hxk .head) ?_
        rintro _ _ ⟨rfl, rfl⟩
        refine ⟨.inl (by simp), ?_⟩
        refine JM.one (i := 14) (by kernel_rfl) ?_
        refine JMi.eff rfl rfl rfl rfl (m' := 32767) rfl (Pur.eff (Pur.idx rfl rfl rfl (by first | rfl | (simp; done) | omega | (rw [List.length_set, hrl])) hjj (by rw [List.length_set]; omega))) ?_
        rintro _ _ ⟨rfl, rfl⟩
        refine ⟨.inl (.inr (by kernel_rfl)), ?_⟩
        refine JM.one (i := 15) (by kernel_rfl) ?_
        refine JMi.effN rfl rfl rfl (m' := 65535) rfl (Eff.storeS0 (z' := (xs.getD k default)) rfl rfl rfl rfl (List.getElem?_eq_getElem (by rw [List.length_set]; omega)) .head) ?_
        rintro _ _ ⟨rfl, rfl⟩
        refine ⟨.inl (by simp), ?_⟩
        refine JM.done rfl ?_
        refine J.inBlock ?_
        refine J.region rfl ?_
        refine JO.pur rfl rfl rfl (Pur.move rfl) ?_
        refine JO.pur rfl rfl rfl (Pur.add rfl rfl (wr64 (by omega))) ?_
        refine JO.pur rfl rfl rfl (Pur.move rfl) ?_
        refine JO.pur rfl rfl rfl (Pur.sub rfl rfl (wr64 (by omega))) ?_
        refine JO.pur rfl rfl rfl (Pur.assign rfl) ?_
        refine JO.pur rfl rfl rfl (Pur.assign rfl) ?_
        refine JO.nil ?_
        exact J.weaken (.cons rfl (congrArg (Value.int .i64) (by first | rfl | (dsimp only; omega))) (.cons rfl (congrArg (Value.int .i64) (by omega)) (.cons rfl rfl .nil))) (fun h s => by rw [hst] at s; exact SubC.out h s) (ih0 (k + 1) (by omega) (by omega))
      · skip
        refine JMi.effN rfl rfl rfl (m' := 16375) rfl (Eff.storeS0 (z' := (xs.getD (xs.length - 1 - k) default)) rfl rfl rfl rfl hxk .head) ?_
        rintro _ _ ⟨rfl, rfl⟩
        refine ⟨.inl (by simp), ?_⟩
        refine JM.one (i := 3) (by kernel_rfl) ?_
        refine JMi.eff rfl rfl rfl rfl (m' := 16383) rfl (Pur.eff (Pur.move rfl)) ?_
        rintro _ _ ⟨rfl, rfl⟩
        refine ⟨.inl (.inr (by kernel_rfl)), ?_⟩
        refine JM.one (i := 14) (by kernel_rfl) ?_
        refine JMi.eff rfl rfl rfl rfl (m' := 32767) rfl (Pur.eff (Pur.idx rfl rfl rfl (by first | rfl | (simp; done) | omega | (rw [List.length_set, hrl])) hjj (by rw [List.length_set]; omega))) ?_
        rintro _ _ ⟨rfl, rfl⟩
        refine ⟨.inl (.inr (by kernel_rfl)), ?_⟩
        refine JM.one (i := 15) (by kernel_rfl) ?_
        refine JMi.effN rfl rfl rfl (m' := 65535) rfl (Eff.storeS0 (z' := (xs.getD k default)) rfl rfl rfl rfl (List.getElem?_eq_getElem (by rw [List.length_set]; omega)) .head) ?_
        rintro _ _ ⟨rfl, rfl⟩
        refine ⟨.inl (by simp), ?_⟩
        refine JM.done rfl ?_
        refine J.inBlock ?_
        refine J.region rfl ?_
        refine JO.pur rfl rfl rfl (Pur.move rfl) ?_
        refine JO.pur rfl rfl rfl (Pur.add rfl rfl (wr64 (by omega))) ?_
        refine JO.pur rfl rfl rfl (Pur.move rfl) ?_
        refine JO.pur rfl rfl rfl (Pur.sub rfl rfl (wr64 (by omega))) ?_
        refine JO.pur rfl rfl rfl (Pur.assign rfl) ?_
        refine JO.pur rfl rfl rfl (Pur.assign rfl) ?_
        refine JO.nil ?_
        exact J.weaken (.cons rfl (congrArg (Value.int .i64) (by first | rfl | (dsimp only; omega))) (.cons rfl (congrArg (Value.int .i64) (by omega)) (.cons rfl rfl .nil))) (fun h s => by rw [hst] at s; exact SubC.out h s) (ih0 (k + 1) (by omega) (by omega))
    · skip
      refine JMi.eff rfl rfl rfl rfl (m' := 8187) rfl (Pur.eff (Pur.move rfl)) ?_
      rintro _ _ ⟨rfl, rfl⟩
      refine ⟨.inr (fun _ h => h), ?_⟩
      refine JM.many (rs := [2, 13]) (by kernel_rfl) rfl (fun i hi => ?_)
      simp only [List.mem_cons, List.not_mem_nil, or_false] at hi
      rcases hi with rfl | rfl
      · skip
        refine JMi.eff rfl rfl rfl rfl (m' := 8191) rfl (Pur.eff (Pur.move rfl)) ?_
        rintro _ _ ⟨rfl, rfl⟩
        refine ⟨.inr (fun _ h => h), ?_⟩
        refine JM.one (i := 13) (by kernel_rfl) ?_
        refine JMi.effN rfl rfl rfl (m' := 16383) rfl (Eff.storeS0 (z' := (xs.getD (xs.length - 1 - k) default)) rfl rfl rfl rfl hxk .head) ?_
        rintro _ _ ⟨rfl, rfl⟩
        refine ⟨.inl (by simp), ?_⟩
        refine JM.one (i := 14) (by kernel_rfl) ?_
        refine JMi.eff rfl rfl rfl rfl (m' := 32767) rfl (Pur.eff (Pur.idx rfl rfl rfl (by first | rfl | (simp; done) | omega | (rw [List.length_set, hrl])) hjj (by rw [List.length_set]; omega))) ?_
        rintro _ _ ⟨rfl, rfl⟩
        refine ⟨.inl (.inr (by kernel_rfl)), ?_⟩
        refine JM.one (i := 15) (by kernel_rfl) ?_
        refine JMi.effN rfl rfl rfl (m' := 65535) rfl (Eff.storeS0 (z' := (xs.getD k default)) rfl rfl rfl rfl (List.getElem?_eq_getElem (by rw [List.length_set]; omega)) .head) ?_
        rintro _ _ ⟨rfl, rfl⟩
        refine ⟨.inl (by simp), ?_⟩
        refine JM.done rfl ?_
        refine J.inBlock ?_
        refine J.region rfl ?_
        refine JO.pur rfl rfl rfl (Pur.move rfl) ?_
        refine JO.pur rfl rfl rfl (Pur.add rfl rfl (wr64 (by omega))) ?_
        refine JO.pur rfl rfl rfl (Pur.move rfl) ?_
        refine JO.pur rfl rfl rfl (Pur.sub rfl rfl (wr64 (by omega))) ?_
        refine JO.pur rfl rfl rfl (Pur.assign rfl) ?_
        refine JO.pur rfl rfl rfl (Pur.assign rfl) ?_
        refine JO.nil ?_
        exact J.weaken (.cons rfl (congrArg (Value.int .i64) (by first | rfl | (dsimp only; omega))) (.cons rfl (congrArg (Value.int .i64) (by omega)) (.cons rfl rfl .nil))) (fun h s => by rw [hst] at s; exact SubC.out h s) (ih0 (k + 1) (by omega) (by omega))
      · skip
        refine JMi.effN rfl rfl rfl (m' := 16379) rfl (Eff.storeS0 (z' := (xs.getD (xs.length - 1 - k) default)) rfl rfl rfl rfl hxk .head) ?_
        rintro _ _ ⟨rfl, rfl⟩
        refine ⟨.inl (by simp), ?_⟩
        refine JM.one (i := 2) (by kernel_rfl) ?_
        refine JMi.eff rfl rfl rfl rfl (m' := 16383) rfl (Pur.eff (Pur.move rfl)) ?_
        rintro _ _ ⟨rfl, rfl⟩
        refine ⟨.inl (.inr (by kernel_rfl)), ?_⟩
        refine JM.one (i := 14) (by kernel_rfl) ?_
        refine JMi.eff rfl rfl rfl rfl (m' := 32767) rfl (Pur.eff (Pur.idx rfl rfl rfl (by first | rfl | (simp; done) | omega | (rw [List.length_set, hrl])) hjj (by rw [List.length_set]; omega))) ?_
        rintro _ _ ⟨rfl, rfl⟩
        refine ⟨.inl (.inr (by kernel_rfl)), ?_⟩
        refine JM.one (i := 15) (by kernel_rfl) ?_
        refine JMi.effN rfl rfl rfl (m' := 65535) rfl (Eff.storeS0 (z' := (xs.getD k default)) rfl rfl rfl rfl (List.getElem?_eq_getElem (by rw [List.length_set]; omega)) .head) ?_
        rintro _ _ ⟨rfl, rfl⟩
        refine ⟨.inl (by simp), ?_⟩
        refine JM.done rfl ?_
        refine J.inBlock ?_
        refine J.region rfl ?_
        refine JO.pur rfl rfl rfl (Pur.move rfl) ?_
        refine JO.pur rfl rfl rfl (Pur.add rfl rfl (wr64 (by omega))) ?_
        refine JO.pur rfl rfl rfl (Pur.move rfl) ?_
        refine JO.pur rfl rfl rfl (Pur.sub rfl rfl (wr64 (by omega))) ?_
        refine JO.pur rfl rfl rfl (Pur.assign rfl) ?_
        refine JO.pur rfl rfl rfl (Pur.assign rfl) ?_
        refine JO.nil ?_
        exact J.weaken (.cons rfl (congrArg (Value.int .i64) (by first | rfl | (dsimp only; omega))) (.cons rfl (congrArg (Value.int .i64) (by omega)) (.cons rfl rfl .nil))) (fun h s => by rw [hst] at s; exact SubC.out h s) (ih0 (k + 1) (by omega) (by omega))
    · skip
      refine JMi.effN rfl rfl rfl (m' := 16371) rfl (Eff.storeS0 (z' := (xs.getD (xs.length - 1 - k) default)) rfl rfl rfl rfl hxk .head) ?_
      rintro _ _ ⟨rfl, rfl⟩
      refine ⟨.inl (by simp), ?_⟩
      refine JM.many (rs := [2, 3]) (by kernel_rfl) rfl (fun i hi => ?_)
      simp only [List.mem_cons, List.not_mem_nil, or_false] at hi
      rcases hi with rfl | rfl
      · skip
        refine JMi.eff rfl rfl rfl rfl (m' := 16375) rfl (Pur.eff (Pur.move rfl)) ?_
        rintro _ _ ⟨rfl, rfl⟩
        refine ⟨.inl (.inr (by kernel_rfl)), ?_⟩
        refine JM.one (i := 3) (by kernel_rfl) ?_
        refine JMi.eff rfl rfl rfl rfl (m' := 16383) rfl (Pur.eff (Pur.move rfl)) ?_
        rintro _ _ ⟨rfl, rfl⟩
        refine ⟨.inl (.inr (by kernel_rfl)), ?_⟩
        refine JM.one (i := 14) (by kernel_rfl) ?_
        refine JMi.eff rfl rfl rfl rfl (m' := 32767) rfl (Pur.eff (Pur.idx rfl rfl rfl (by first | rfl | (simp; done) | omega | (rw [List.length_set, hrl])) hjj (by rw [List.length_set]; omega))) ?_
        rintro _ _ ⟨rfl, rfl⟩
        refine ⟨.inl (.inr (by kernel_rfl)), ?_⟩
        refine JM.one (i := 15) (by kernel_rfl) ?_
        refine JMi.effN rfl rfl rfl (m' := 65535) rfl (Eff.storeS0 (z' := (xs.getD k default)) rfl rfl rfl rfl (List.getElem?_eq_getElem (by rw [List.length_set]; omega)) .head) ?_
        rintro _ _ ⟨rfl, rfl⟩
        refine ⟨.inl (by simp), ?_⟩
        refine JM.done rfl ?_
        refine J.inBlock ?_
        refine J.region rfl ?_
        refine JO.pur rfl rfl rfl (Pur.move rfl) ?_
        refine JO.pur rfl rfl rfl (Pur.add rfl rfl (wr64 (by omega))) ?_
        refine JO.pur rfl rfl rfl (Pur.move rfl) ?_
        refine JO.pur rfl rfl rfl (Pur.sub rfl rfl (wr64 (by omega))) ?_
        refine JO.pur rfl rfl rfl (Pur.assign rfl) ?_
        refine JO.pur rfl rfl rfl (Pur.assign rfl) ?_
        refine JO.nil ?_
        exact J.weaken (.cons rfl (congrArg (Value.int .i64) (by first | rfl | (dsimp only; omega))) (.cons rfl (congrArg (Value.int .i64) (by omega)) (.cons rfl rfl .nil))) (fun h s => by rw [hst] at s; exact SubC.out h s) (ih0 (k + 1) (by omega) (by omega))
      · skip
        refine JMi.eff rfl rfl rfl rfl (m' := 16379) rfl (Pur.eff (Pur.move rfl)) ?_
        rintro _ _ ⟨rfl, rfl⟩
        refine ⟨.inl (.inr (by kernel_rfl)), ?_⟩
        refine JM.one (i := 2) (by kernel_rfl) ?_
        refine JMi.eff rfl rfl rfl rfl (m' := 16383) rfl (Pur.eff (Pur.move rfl)) ?_
        rintro _ _ ⟨rfl, rfl⟩
        refine ⟨.inl (.inr (by kernel_rfl)), ?_⟩
        refine JM.one (i := 14) (by kernel_rfl) ?_
        refine JMi.eff rfl rfl rfl rfl (m' := 32767) rfl (Pur.eff (Pur.idx rfl rfl rfl (by first | rfl | (simp; done) | omega | (rw [List.length_set, hrl])) hjj (by rw [List.length_set]; omega))) ?_
        rintro _ _ ⟨rfl, rfl⟩
        refine ⟨.inl (.inr (by kernel_rfl)), ?_⟩
        refine JM.one (i := 15) (by kernel_rfl) ?_
        refine JMi.effN rfl rfl rfl (m' := 65535) rfl (Eff.storeS0 (z' := (xs.getD k default)) rfl rfl rfl rfl (List.getElem?_eq_getElem (by rw [List.length_set]; omega)) .head) ?_
        rintro _ _ ⟨rfl, rfl⟩
        refine ⟨.inl (by simp), ?_⟩
        refine JM.done rfl ?_
        refine J.inBlock ?_
        refine J.region rfl ?_
        refine JO.pur rfl rfl rfl (Pur.move rfl) ?_
        refine JO.pur rfl rfl rfl (Pur.add rfl rfl (wr64 (by omega))) ?_
        refine JO.pur rfl rfl rfl (Pur.move rfl) ?_
        refine JO.pur rfl rfl rfl (Pur.sub rfl rfl (wr64 (by omega))) ?_
        refine JO.pur rfl rfl rfl (Pur.assign rfl) ?_
        refine JO.pur rfl rfl rfl (Pur.assign rfl) ?_
        refine JO.nil ?_
        exact J.weaken (.cons rfl (congrArg (Value.int .i64) (by first | rfl | (dsimp only; omega))) (.cons rfl (congrArg (Value.int .i64) (by omega)) (.cons rfl rfl .nil))) (fun h s => by rw [hst] at s; exact SubC.out h s) (ih0 (k + 1) (by omega) (by omega))
  · try simp only [decide_eq_true_eq, decide_eq_false_iff_not, Bool.not_eq_true', Bool.not_eq_false', Bool.and_eq_true, Bool.or_eq_true, Bool.and_eq_false_iff, Bool.or_eq_false_iff, Option.isNone_some, Option.isSome_some, Option.isNone_none, Option.isSome_none, Int.not_lt, Int.not_le, beq_iff_eq, beq_eq_false_iff_ne, bne_iff_ne, ne_eq, Bool.not_not, Decidable.not_not] at h9
    refine J.condF rfl rfl ?_
    refine J.exit rfl rfl ?_
    refine J.fin rfl ?_
    obtain hke : xs.length - 1 - k ≤ k := by omega
    refine ⟨_, _, ⟨rfl, rfl⟩, rfl, fun h s => ?_⟩
    rw [rvL_all hke] at s
    exact SubC.out h s

def trD (rs : List Rg) : List Rg := if okD rs then (canD rs).reverse else []
theorem fold_mul : ∀ (d : List Rg) (a : Nat), d.foldl (fun n r => n * cnt r) a = a * cntD d
  | [], a => by simp [cntD]
  | r :: d, a => by
    show d.foldl _ (a * cnt r) = a * d.foldl _ (1 * cnt r)
    rw [fold_mul d (a * cnt r), fold_mul d (1 * cnt r), Nat.one_mul, Nat.mul_assoc]
theorem cntD_cons (r : Rg) (d : List Rg) : cntD (r :: d) = cnt r * cntD d := by
  show d.foldl _ (1 * cnt r) = _
  rw [fold_mul, Nat.one_mul]
theorem cntD_rev : ∀ (d : List Rg), cntD d.reverse = cntD d
  | [] => rfl
  | r :: d => by rw [List.reverse_cons, cntD_snoc, cntD_rev d, cntD_cons, Nat.mul_comm]
theorem okD_rev {d : List Rg} : okD d.reverse ↔ okD d := by
  unfold okD okRs
  rw [List.length_reverse, cntD_rev]
  simp only [List.mem_reverse]
theorem canD_rev (d : List Rg) : canD d.reverse = (canD d).reverse := by
  unfold canD
  rw [cntD_rev]
  split <;> rw [List.map_reverse]
theorem d_Transpose {L : List Asn} {a : Option Addr} {n cap : Nat} {rs : List Rg} [SlIn rgE L a rs] (hn : n = rs.length) :
    CallS Try.prog 109 [.agg #[.slice a n cap]].toArray L (fun v M => ∃ a' c', v = .tuple #[.agg #[.slice a' (trD rs).length c'], .int .i64 (erD rs)] ∧ M = sl rgE a' c' (trD rs) :: L) := by
  subst hn
  refine CallS.ent ?_
  refine CallS.enter Try.func109 rfl rfl rfl rfl rfl ?_
  refine J.seq rfl ?_
  refine J.region rfl ?_
  refine JO.eff rfl rfl rfl (Eff.box (cs := [_]) rfl rfl) ?_
  rintro _ _ ⟨b1, rfl, rfl⟩
  refine JO.eff rfl rfl rfl (Eff.alloc (cs := [_]) rfl) ?_
  rintro _ _ ⟨b2, rfl, rfl⟩
  refine JO.pur rfl rfl rfl (Pur.assign rfl) ?_
  refine JO.nil ?_
  refine J.seq rfl ?_
  refine J.seq rfl ?_
  refine J.region rfl ?_
  refine JO.pur rfl rfl rfl (Pur.loadA rfl rfl rfl CellsIn.blk) ?_
  refine JO.effR rfl rfl rfl (Eff.call rfl (d_Valid (rs := rs) rfl)) ?_
  refine JO.pur rfl rfl rfl (Pur.not rfl) ?_
  refine JO.nil ?_
  refine J.splitB 7 rfl (fun h7 => ?_) (fun h7 => ?_)
  · try simp only [decide_eq_true_eq, decide_eq_false_iff_not, Bool.not_eq_true', Bool.not_eq_false', Bool.and_eq_true, Bool.or_eq_true, Bool.and_eq_false_iff, Bool.or_eq_false_iff, Option.isNone_some, Option.isSome_some, Option.isNone_none, Option.isSome_none, Int.not_lt, Int.not_le, beq_iff_eq, beq_eq_false_iff_ne, bne_iff_ne, ne_eq, Bool.not_not, Decidable.not_not] at h7
    have hbad : ¬ okD rs := by simpa using h7
    refine J.condT rfl rfl ?_
    refine J.seq rfl ?_
    refine J.region rfl ?_
    refine JO.pur rfl rfl rfl (Pur.build (cs := [_]) rfl rfl) ?_
    refine JO.effN rfl rfl (Eff.storeBA (cs' := [_]) rfl rfl (by rfl) (by rfl) (by rfl)) ?_
    rintro _ _ ⟨rfl, rfl⟩
    refine JO.pur rfl rfl rfl (Pur.assign rfl) ?_
    refine JO.nil ?_
    refine J.retC rfl (.cell rfl (ld_agg rfl CellsIn.blk) (.tmp rfl .nil)) ?_
    refine ⟨_, _, ⟨none, 0, rfl, rfl⟩, ?_, fun h s => ?_⟩
    · unfold trD erD; rw [if_neg hbad, if_neg hbad]; rfl
    · unfold trD; rw [if_neg hbad]; exact sl_nil_new (SubC.out h s)
  · try simp only [decide_eq_true_eq, decide_eq_false_iff_not, Bool.not_eq_true', Bool.not_eq_false', Bool.and_eq_true, Bool.or_eq_true, Bool.and_eq_false_iff, Bool.or_eq_false_iff, Option.isNone_some, Option.isSome_some, Option.isNone_none, Option.isSome_none, Int.not_lt, Int.not_le, beq_iff_eq, beq_eq_false_iff_ne, bne_iff_ne, ne_eq, Bool.not_not, Decidable.not_not] at h7
    have hgood : okD rs := by simpa using h7
    have hl3 := hgood.2.1
    have hcl := canD_len rs
    refine J.condF rfl rfl ?_
    refine J.skip rfl ?_
    refine J.seq rfl ?_
    refine J.region rfl ?_
    refine JO.pur rfl rfl rfl (Pur.loadA rfl rfl rfl CellsIn.blk) ?_
    refine JO.eff rfl rfl rfl (Eff.call rfl (d_canon (rs := rs) rfl hgood)) ?_
    rintro _ _ ⟨a10, c10, rfl, rfl⟩
    refine JO.eff rfl rfl rfl (Eff.alloc (cs := [_]) rfl) ?_
    rintro _ _ ⟨b4, rfl, rfl⟩
    refine JO.effN rfl rfl (Eff.storeBA (cs' := [_]) rfl rfl (by rfl) (by rfl) (by rfl)) ?_
    rintro _ _ ⟨rfl, rfl⟩
    refine JO.nil ?_
    refine J.seq rfl ?_
    refine J.region rfl ?_
    refine JO.pur rfl rfl rfl (Pur.fieldAddr rfl) ?_
    refine JO.pur rfl rfl rfl (Pur.load rfl (CellIn.blk rfl)) ?_
    refine JO.pullC (A := sl rgE a10 c10 (canD rs)) inferInstance ?_
    refine JO.eff rfl rfl rfl (Eff.call rfl (revR_ok (xs := canD rs) (by rw [hcl]) (by omega))) ?_
    rintro _ _ ⟨rfl, rfl⟩
    refine JO.nil ?_
    refine J.seq rfl ?_
    refine J.region rfl ?_
    refine JO.pur rfl rfl rfl (Pur.loadA rfl rfl rfl CellsIn.blk) ?_
    refine JO.effN rfl rfl (Eff.storeBA (cs' := [_]) rfl rfl (by rfl) (by rfl) (by rfl)) ?_
    rintro _ _ ⟨rfl, rfl⟩
    refine JO.pur rfl rfl rfl (Pur.assign rfl) ?_
    refine JO.nil ?_
    refine J.retC rfl (.cell rfl (ld_agg rfl CellsIn.blk) (.tmp rfl .nil)) ?_
    refine ⟨_, _, ⟨a10, c10, rfl, rfl⟩, ?_, fun h s => ?_⟩
    · unfold trD erD; rw [if_pos hgood, if_pos hgood, List.length_reverse, hcl]; rfl
    · unfold trD; rw [if_pos hgood]; exact SubC.out h s

end Go.Proofs.Ytnhippfllgnngaa

/- The text LPlain. -/
/-!
  Layouts, plain: the indexes of a domain in the order of a layout, and where one stands. No program in sight.
-/
set_option linter.unusedVariables false
set_option linter.unusedSimpArgs false
namespace Dm
def rowS : ByteArray := ⟨#[114, 111, 119, 115]⟩
def colS : ByteArray := ⟨#[99, 111, 108, 117, 109, 110, 115]⟩
def okL (s : ByteArray) : Prop := s = rowS ∨ s = colS
instance (s : ByteArray) : Decidable (okL s) := inferInstanceAs (Decidable (_ ∨ _))
def isC (s : ByteArray) : Bool := decide (s = colS)
/-- An index, turned as the layout turns it. -/
def ixL (c : Bool) (x : List Int) : List Int := if c = true then x.reverse else x
/-- A domain, turned. -/
def tuL (c : Bool) (rs : List Rg) : List Rg := if c = true then rs.reverse else rs
def ordL (c : Bool) (rs : List Rg) : List (List Int) := (idx (tuL c rs)).map (ixL c)
def offL (c : Bool) (rs : List Rg) (x : List Int) : Option Nat := plD (tuL c rs) (ixL c x)
/-- What a search through the list finds. -/
def findL (l : List (List Int)) (x : List Int) : Int := match l.findIdx? (fun y => decide (y = x)) with | some i => (i : Int) | none => -1
/-- The place, 0 where there is none. -/
def offZ (c : Bool) (rs : List Rg) (x : List Int) : Nat := (offL c rs x).getD 0
def offsL (c : Bool) (d part : List Rg) : List Int := (ordL c part).map fun x => ((offZ c d x : Nat) : Int)
/-- Runs. -/
def runStep (out : List (Int × Int)) (n : Int) : List (Int × Int) := match out.getLast? with
  | some p => if p.1 + p.2 = n then out.set (out.length - 1) (p.1, p.2 + 1) else out ++ [(n, 1)]
  | none => out ++ [(n, 1)]
def runsOf (l : List Int) : List (Int × Int) := l.foldl runStep []
end Dm

/- The text LPlain2. -/
/-!
  What is within what, plain.
-/
set_option linter.unusedVariables false
set_option linter.unusedSimpArgs false
namespace Dm
/-- All members of r are in s. -/
def wiR (r s : Rg) : Prop := ∀ i : Nat, i < cnt r → (plR s (atR r (i : Int))).isSome = true
theorem plK_some {d : List Rg} {x : List Int} : ∀ {k : Nat}, (plK d x k).isSome = true ↔ ∀ j, j < k → (plR (d.getD j default) (x.getD j default)).isSome = true
  | 0 => by simp [plK]
  | k + 1 => by
    have ih := plK_some (d := d) (x := x) (k := k)
    unfold plK
    constructor
    · intro h j hj
      cases e1 : plK d x k with
      | none => rw [e1] at h; simp at h
      | some a =>
        cases e2 : plR (d.getD k default) (x.getD k default) with
        | none => rw [e1, e2] at h; simp at h
        | some i =>
          rcases Nat.lt_or_ge j k with hjk | hjk
          · exact (ih.1 (by rw [e1]; rfl)) j hjk
          · rw [show j = k by omega, e2]; rfl
    · intro h
      have h1 := ih.2 fun j hj => h j (by omega)
      have h2 := h k (by omega)
      cases e1 : plK d x k with
      | none => rw [e1] at h1; cases h1
      | some a =>
        cases e2 : plR (d.getD k default) (x.getD k default) with
        | none => rw [e2] at h2; cases h2
        | some i => rfl
/-- All indexes of a are of b. -/
def wiD (a b : List Rg) : Prop := ∀ x ∈ idx a, x ∈ idx b
theorem getD_rev {α : Type} [Inhabited α] {l : List α} {j : Nat} (h : j < l.length) : l.reverse.getD j default = l.getD (l.length - 1 - j) default := by
  rw [List.getD_eq_getElem?_getD, List.getD_eq_getElem?_getD, List.getElem?_reverse h]
end Dm

/- The text SD1. -/
set_option linter.unusedVariables false
set_option linter.unusedSimpArgs false
set_option maxRecDepth 10000
namespace Go.Proofs.Ytnhippfllgnngaa
open Go Go.KK Dm

instance (r s : Rg) : Decidable (wiR r s) := inferInstanceAs (Decidable (∀ i, i < cnt r → _))
instance (a b : List Rg) : Decidable (wiD a b) := inferInstanceAs (Decidable (∀ x ∈ idx a, _))
/-- The error of two domains that must have one rank. -/
def twoV (a b : List Rg) : Int := if ¬ (okD a ∧ okD b) then 40 else if a.length ≠ b.length then 2 else 0
def witV (a b : List Rg) : Bool × Int := if twoV a b ≠ 0 then (false, twoV a b) else (decide (wiD a b), 0)
end Go.Proofs.Ytnhippfllgnngaa

/- The text SD2. -/
set_option linter.unusedVariables false
set_option linter.unusedSimpArgs false
set_option maxRecDepth 10000
namespace Go.Proofs.Ytnhippfllgnngaa
open Go Go.KK Dm

theorem cloneI {L : List Asn} {a : Option Addr} {n cap : Nat} {xs : List Int} [SlIn intE L a xs] (hn : n = xs.length) (hb : xs.length ≤ 17592186044416) (hnil : a = none → n = 0 ∧ cap = 0) :
    CallS Try.prog 110 [.slice a n cap].toArray L (fun v M => ∃ a' cap', (v = .slice a' n cap' ∧ (a = none → a' = none)) ∧ M = sl intE a' cap' xs :: L) := by
  subst hn
  refine CallS.ent ?_
  refine CallS.enter Try.func110 rfl rfl rfl rfl rfl ?_
  refine J.seq rfl ?_
  refine J.region rfl ?_
  refine JO.pur rfl rfl rfl (Pur.assign rfl) ?_
  refine JO.nil ?_
  refine J.seq rfl ?_
  refine J.seq rfl ?_
  refine J.region rfl ?_
  refine JO.pur rfl rfl rfl (Pur.move rfl) ?_
  refine JO.pur rfl rfl rfl (Pur.eqlSlNil rfl) ?_
  refine JO.nil ?_
  refine J.splitB 4 rfl (fun h4 => ?_) (fun h4 => ?_)
  · try simp only [decide_eq_true_eq, decide_eq_false_iff_not, Bool.not_eq_true', Bool.not_eq_false', Bool.and_eq_true, Bool.or_eq_true, Bool.and_eq_false_iff, Bool.or_eq_false_iff, Option.isNone_some, Option.isSome_some, Option.isNone_none, Option.isSome_none, Int.not_lt, Int.not_le, beq_iff_eq, beq_eq_false_iff_ne, bne_iff_ne, ne_eq, Bool.not_not, Decidable.not_not] at h4
    have ha : a = none := by cases a with | none => rfl | some p => simp at h4
    subst ha
    obtain ⟨e1, e2⟩ := hnil rfl
    have e3 : xs = [] := List.eq_nil_of_length_eq_zero (by omega)
    subst e2; subst e3
    refine J.condT rfl rfl ?_
    refine J.seq rfl ?_
    refine J.region rfl ?_
    refine JO.pur rfl rfl rfl (Pur.assign rfl) ?_
    refine JO.nil ?_
    refine J.ret rfl rfl ?_
    exact ⟨_, _, ⟨none, 0, ⟨rfl, fun _ => rfl⟩, rfl⟩, rfl, fun h hs => sl_nil_new hs⟩
  · try simp only [decide_eq_true_eq, decide_eq_false_iff_not, Bool.not_eq_true', Bool.not_eq_false', Bool.and_eq_true, Bool.or_eq_true, Bool.and_eq_false_iff, Bool.or_eq_false_iff, Option.isNone_some, Option.isSome_some, Option.isNone_none, Option.isSome_none, Int.not_lt, Int.not_le, beq_iff_eq, beq_eq_false_iff_ne, bne_iff_ne, ne_eq, Bool.not_not, Decidable.not_not] at h4
    refine J.condF rfl rfl ?_
    refine J.skip rfl ?_
    refine J.seq rfl ?_
    refine J.region rfl ?_
    refine JO.eff rfl rfl rfl (Eff.buildSlice intE [] rfl rfl rfl rfl rfl rfl rfl) ?_
    rintro _ _ ⟨b5, rfl, -, rfl⟩
    refine JO.pur rfl rfl rfl (Pur.move rfl) ?_
    refine JO.eff rfl rfl rfl (Eff.append rfl rfl rfl rfl (by first | rfl | omega | (simp; done) | (simp; omega)) (by first | rfl | omega | (simp; done) | (simp; omega)) (by decide) (by simp; omega) (by simp; omega) hnil) ?_
    rintro _ _ ⟨a7, c7, rfl, rfl⟩
    refine JO.pur rfl rfl rfl (Pur.assign rfl) ?_
    refine JO.nil ?_
    refine J.ret rfl rfl ?_
    refine ⟨_, _, ⟨a7, c7, ⟨rfl, fun e => ?_⟩, rfl⟩, ?_, fun h hs => ?_⟩
    · rw [e] at h4; simp at h4
    · show Value.slice _ _ _ = Value.slice _ _ _
      simp
    · simpa using hs

def stE : Enc ByteArray := ⟨9, 1, fun s => [.string s], fun _ => rfl, fun s v h => by
  simp only [List.mem_cons, List.not_mem_nil, or_false] at h; rcases h with rfl; rfl⟩
def domE : Enc Hdr := hdrE 24
theorem plD_can {d : List Rg} (h : okRs d) (hd : d ≠ []) (x : List Int) : plD (canD d) x = plD d x := by
  have key : ∀ n, plD (canD d) x = some n ↔ plD d x = some n := fun n => by rw [plD_iff (canD_ok h), plD_iff h, canD_idx h hd]
  cases e : plD d x with
  | none =>
    cases e2 : plD (canD d) x with
    | none => rfl
    | some n => have := (key n).1 e2; rw [e] at this; cases this
  | some n => exact (key n).2 e
def askV (ss : List ByteArray) (ds : List (List Rg)) : Int := if ¬ (∀ z ∈ ss, okL z) then 60 else if ¬ (∀ d ∈ ds, okD d) then 40 else 0
end Go.Proofs.Ytnhippfllgnngaa

/- The text SpPlain. -/
set_option linter.unusedVariables false
set_option linter.unusedSimpArgs false
/-! Sparse domains, plain. -/
namespace Go.Proofs.Ytnhippfllgnngaa
open Go Go.KK Dm
/-- The place of an index, 0 where it has none. -/
def atS (rs : List Rg) (x : List Int) : Int := (((plD rs x).getD 0 : Nat) : Int)
def lastS (rs : List Rg) (xss : List (List Int)) (j : Nat) : Int := if j = 0 then -1 else atS rs (xss.getD (j - 1) [])
def stepS (rs : List Rg) (xss : List (List Int)) (j : Nat) : Prop := (plD rs (xss.getD j [])).isSome = true ∧ lastS rs xss j < atS rs (xss.getD j [])
instance (rs : List Rg) (xss : List (List Int)) (j : Nat) : Decidable (stepS rs xss j) := inferInstanceAs (Decidable (_ ∧ _))
def okS (rs : List Rg) (xss : List (List Int)) : Prop := okD rs ∧ xss.length ≤ 400 ∧ ∀ j, j < xss.length → stepS rs xss j
instance (rs : List Rg) (xss : List (List Int)) : Decidable (okS rs xss) := inferInstanceAs (Decidable (_ ∧ _))
theorem atS_nonneg (rs : List Rg) (x : List Int) : 0 ≤ atS rs x := Int.natCast_nonneg _
theorem plV_ok {rs : List Rg} (h : okD rs) (x : List Int) : ((plV rs x).2 = 0 ↔ (plD rs x).isSome = true) ∧ ((plD rs x).isSome = true → plV rs x = (atS rs x, 0)) := by
  unfold plV atS
  rw [if_neg (not_not_intro h)]
  by_cases hl : x.length = rs.length
  · rw [if_neg (not_not_intro hl)]
    cases e : plD rs x with
    | none => simp
    | some n => simp
  · rw [if_pos hl]
    have : plD rs x = none := by unfold plD; rw [if_neg hl]
    simp [this]
theorem getD_at' {α : Type} {l : List α} {k : Nat} (d : α) (h : k < l.length) : l[k]? = some (l.getD k d) := by
  rw [List.getD_eq_getElem?_getD, List.getElem?_eq_getElem h]; rfl
theorem okS_some {rs : List Rg} {xss : List (List Int)} (h : okS rs xss) {x : List Int} (hx : x ∈ xss) : (plD rs x).isSome = true := by
  obtain ⟨j, hj, e⟩ := List.getElem_of_mem hx
  have := (h.2.2 j hj).1
  rwa [List.getD_eq_getElem?_getD, List.getElem?_eq_getElem hj, Option.getD_some, e] at this
theorem okS_len {rs : List Rg} {xss : List (List Int)} (h : okS rs xss) {x : List Int} (hx : x ∈ xss) : x.length = rs.length := by
  have := okS_some h hx
  unfold plD at this
  by_cases e : x.length = rs.length
  · exact e
  · rw [if_neg e] at this; cases this
theorem atS_inj {rs : List Rg} (h : okRs rs) {x y : List Int} (hx : (plD rs x).isSome = true) (hy : (plD rs y).isSome = true) (e : atS rs x = atS rs y) : x = y := by
  obtain ⟨n, hn⟩ := Option.isSome_iff_exists.1 hx
  obtain ⟨m, hm⟩ := Option.isSome_iff_exists.1 hy
  unfold atS at e
  rw [hn, hm] at e
  have e2 : n = m := Int.ofNat.inj e
  subst e2
  have a1 := (plD_iff h).1 hn
  have a2 := (plD_iff h).1 hm
  rw [a1] at a2; exact Option.some.inj a2
/-- Ascending places. -/
theorem okS_asc {rs : List Rg} {xss : List (List Int)} (h : okS rs xss) : ∀ j i, i < j → j < xss.length → atS rs (xss.getD i []) < atS rs (xss.getD j []) := by
  intro j
  induction j with
  | zero => intro i hi; omega
  | succ j ih =>
    intro i hi hj
    have h1 := (h.2.2 (j + 1) hj).2
    unfold lastS at h1
    rw [if_neg (by omega), Nat.add_sub_cancel] at h1
    by_cases e : i = j
    · subst e; exact h1
    · have := ih i (by omega) (by omega); omega
/-- The places of a list, if all have one. -/
def plcV (rs : List Rg) (l : List (List Int)) : List Int × Bool := if ∀ x ∈ l, (plV rs x).2 = 0 then (l.map (atS rs), true) else ([], false)
/-- Which one of a list an index is, or where it would stand. -/
def fndV (rs : List Rg) (xss : List (List Int)) (x : List Int) : Int × Bool := if (plV rs x).2 ≠ 0 then (0, false) else (((xss.countP fun y => decide (atS rs y < atS rs x) : Nat) : Int), decide (x ∈ xss))
theorem okS_iff {rs : List Rg} {xss : List (List Int)} (h1 : okD rs) (h2 : xss.length ≤ 400) : okS rs xss ↔ (∀ x ∈ xss, (plV rs x).2 = 0) ∧ ∀ j, 1 ≤ j → j < xss.length → atS rs (xss.getD (j - 1) []) < atS rs (xss.getD j []) := by
  constructor
  · intro h
    refine ⟨fun x hx => (plV_ok h1 x).1.2 (okS_some h hx), fun j hj hl => okS_asc h j (j - 1) (by omega) hl⟩
  · rintro ⟨h3, h4⟩
    refine ⟨h1, h2, fun j hj => ⟨?_, ?_⟩⟩
    · refine (plV_ok h1 _).1.1 (h3 _ ?_)
      rw [List.getD_eq_getElem?_getD, List.getElem?_eq_getElem hj]; exact List.getElem_mem hj
    · unfold lastS
      by_cases e : j = 0
      · rw [if_pos e]; have := atS_nonneg rs (xss.getD j []); omega
      · rw [if_neg e]; exact h4 j (by omega) hj
/-- What the reference has found out about the first ones. -/
def okN (rs : List Rg) (xss : List (List Int)) (q : Nat) : Bool := (plcV rs xss).2 && decide (∀ j, j < q → (1 ≤ j ∧ j < (plcV rs xss).1.length) → (plcV rs xss).1.getD (j - 1) 0 < (plcV rs xss).1.getD j 0)
theorem plcV_yes {rs : List Rg} {l : List (List Int)} (h : ∀ x ∈ l, (plV rs x).2 = 0) : plcV rs l = (l.map (atS rs), true) := if_pos h
theorem plcV_no {rs : List Rg} {l : List (List Int)} (h : ¬ ∀ x ∈ l, (plV rs x).2 = 0) : plcV rs l = ([], false) := if_neg h
end Go.Proofs.Ytnhippfllgnngaa
