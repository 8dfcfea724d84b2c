/-
  A part of the proof of the claim that this folder bears.
-/
import Derived.Test.YtnhippfllgnngaaPAF
import Derived.Test.YtnhippfllgnngaaPAA
/- The text SC4. -/
set_option linter.unusedVariables false
set_option linter.unusedSimpArgs false
set_option maxRecDepth 10000
namespace Go.Proofs.Ytnhippfllgnngaa
open Go Go.KK Dm

theorem revI_ok {L : List Asn} {a : Option Addr} {n cap : Nat} {xs : List Int} (hn : n = xs.length) (hb : xs.length ≤ 17592186044416) :
    CallS Try.prog 111 [.slice a n cap].toArray (sl intE a cap xs :: L) (fun v M => v = .tuple #[] ∧ M = sl intE a cap xs.reverse :: L) := by
  subst hn
  refine CallS.ent ?_
  refine CallS.enter Try.func111 rfl rfl rfl rfl rfl ?_
  refine J.seq rfl ?_
  refine J.region rfl ?_
  refine JO.pur rfl rfl rfl (Pur.move rfl) ?_
  refine JO.pur rfl rfl rfl (Pur.len rfl) ?_
  refine JO.pur rfl rfl rfl (Pur.sub rfl rfl (wr64 (by omega))) ?_
  refine JO.pur rfl rfl rfl (Pur.assign rfl) ?_
  refine JO.pur rfl rfl rfl (Pur.assign rfl) ?_
  refine JO.nil ?_
  refine J.block rfl ?_
  refine J.loopF (ι := Nat) (fun q => q ≤ xs.length) (fun q => [(2, .int .i64 (q : Int)), (3, .int .i64 ((xs.length : Int) - 1 - q))]) [(0, _)] (fun q => sl intE a cap (rvL xs q) :: L) (fun q => xs.length - q) 0 rfl (.cons rfl rfl .nil) (.cons rfl rfl (.cons rfl (congrArg (Value.int .i64) (by omega)) .nil)) (fun h s => by rw [rvL_zero]; exact SubC.out h s) (Nat.zero_le _) ?_
  rintro k hk ih0
  try dsimp only
  refine J.seq rfl ?_
  refine J.seq rfl ?_
  refine J.region rfl ?_
  refine JO.pur rfl rfl rfl (Pur.move rfl) ?_
  refine JO.pur rfl rfl rfl (Pur.move rfl) ?_
  refine JO.pur rfl rfl rfl (Pur.lss rfl rfl) ?_
  refine JO.nil ?_
  refine J.splitB 9 rfl (fun h9 => ?_) (fun h9 => ?_)
  · try simp only [decide_eq_true_eq, decide_eq_false_iff_not, Bool.not_eq_true', Bool.not_eq_false', Bool.and_eq_true, Bool.or_eq_true, Bool.and_eq_false_iff, Bool.or_eq_false_iff, Option.isNone_some, Option.isSome_some, Option.isNone_none, Option.isSome_none, Int.not_lt, Int.not_le, beq_iff_eq, beq_eq_false_iff_ne, bne_iff_ne, ne_eq, Bool.not_not, Decidable.not_not] at h9
    have hkl : k < xs.length - 1 - k := by omega
    have hst := rvL_step hkl
    have hrl := rvL_len xs k
    have hxk : (rvL xs k)[k]? = some (xs.getD k default) := by rw [rvL_get (by omega), if_neg (by omega)]
    have hxj : (rvL xs k)[xs.length - 1 - k]? = some (xs.getD (xs.length - 1 - k) default) := by rw [rvL_get (by omega), if_neg (by omega)]
    have hjj : (xs.length : Int) - 1 - (k : Int) = ((xs.length - 1 - k : Nat) : Int) := by omega
    refine J.condT rfl rfl ?_
    refine J.skip rfl ?_
    refine J.seq rfl ?_
    refine J.block rfl ?_
    refine J.mask0 (n := 16) [13, 15] rfl Try.mixed rfl (by kernel_rfl) ?_
    refine JM.take 0 (fun _ h => h) rfl (by kernel_rfl) rfl rfl rfl (m' := 1) rfl (Pur.move rfl) ?_
    refine JM.take 1 (fun _ h => h) rfl (by kernel_rfl) rfl rfl rfl (m' := 3) rfl (Pur.move rfl) ?_
    refine JM.take 4 (fun _ h => h) rfl (by kernel_rfl) rfl rfl rfl (m' := 19) rfl (Pur.move rfl) ?_
    refine JM.take 5 (fun _ h => h) rfl (by kernel_rfl) rfl rfl rfl (m' := 51) rfl (Pur.move rfl) ?_
    refine JM.take 6 (fun _ h => h) rfl (by kernel_rfl) rfl rfl rfl (m' := 115) rfl (Pur.idx rfl rfl rfl (by first | rfl | (simp; done) | omega | (rw [List.length_set, hrl])) hjj (by omega)) ?_
    refine JM.take 7 (fun _ h => h) rfl (by kernel_rfl) rfl rfl rfl (m' := 243) rfl (Pur.load rfl (CellIn.el0 rfl hxj rfl)) ?_
    refine JM.setv (u' := .int .i64 (xs.getD (xs.length - 1 - k) default)) 21 rfl rfl ?_
    refine JM.take 8 (fun _ h => h) rfl (by kernel_rfl) rfl rfl rfl (m' := 499) rfl (Pur.move rfl) ?_
    refine JM.take 9 (fun _ h => h) rfl (by kernel_rfl) rfl rfl rfl (m' := 1011) rfl (Pur.move rfl) ?_
    refine JM.take 10 (fun _ h => h) rfl (by kernel_rfl) rfl rfl rfl (m' := 2035) rfl (Pur.idx rfl rfl rfl (by first | rfl | (simp; done) | omega | (rw [List.length_set, hrl])) rfl (by omega)) ?_
    refine JM.take 11 (fun _ h => h) rfl (by kernel_rfl) rfl rfl rfl (m' := 4083) rfl (Pur.load rfl (CellIn.el0 rfl hxk rfl)) ?_
    refine JM.setv (u' := .int .i64 (xs.getD k default)) 25 rfl rfl ?_
    refine JM.take 12 (fun _ h => h) rfl (by kernel_rfl) rfl rfl rfl (m' := 8179) rfl (Pur.idx rfl rfl rfl (by first | rfl | (simp; done) | omega | (rw [List.length_set, hrl])) rfl (by omega)) ?_
    refine JM.many (rs := [2, 3, 13]) (by kernel_rfl) rfl (fun i hi => ?_)
    simp only [List.mem_cons, List.not_mem_nil, or_false] at hi
    rcases hi with rfl | rfl | rfl
    · skip
      refine JMi.eff rfl rfl rfl rfl (m' := 8183) rfl (Pur.eff (Pur.move rfl)) ?_
      rintro _ _ ⟨rfl, rfl⟩
      refine ⟨.inr (fun _ h => h), ?_⟩
      refine JM.many (rs := [3, 13]) (by kernel_rfl) rfl (fun i hi => ?_)
      simp only [List.mem_cons, List.not_mem_nil, or_false] at hi
      rcases hi with rfl | rfl
      · skip
        refine JMi.eff rfl rfl rfl rfl (m' := 8191) rfl (Pur.eff (Pur.move rfl)) ?_
        rintro _ _ ⟨rfl, rfl⟩
        refine ⟨.inr (fun _ h => h), ?_⟩
        refine JM.one (i := 13) (by kernel_rfl) ?_
        refine JMi.effN rfl rfl rfl (m' := 16383) rfl (Eff.storeS0 (z' := (xs.getD (xs.length - 1 - k) default)) rfl rfl rfl rfl hxk .head) ?_
        rintro _ _ ⟨rfl, rfl⟩
        refine ⟨.inl (by simp), ?_⟩
        refine JM.one (i := 14) (by kernel_rfl) ?_
        refine JMi.eff rfl rfl rfl rfl (m' := 32767) rfl (Pur.eff (Pur.idx rfl rfl rfl (by first | rfl | (simp; done) | omega | (rw [List.length_set, hrl])) hjj (by rw [List.length_set]; omega))) ?_
        rintro _ _ ⟨rfl, rfl⟩
        refine ⟨.inl (.inr (by kernel_rfl)), ?_⟩
        refine JM.one (i := 15) (by kernel_rfl) ?_
        refine JMi.effN rfl rfl rfl (m' := 65535) rfl (Eff.storeS0 (z' := (xs.getD k default)) rfl rfl rfl rfl (List.getElem?_eq_getElem (by rw [List.length_set]; omega)) .head) ?_
        rintro _ _ ⟨rfl, rfl⟩
        refine ⟨.inl (by simp), ?_⟩
        refine JM.done rfl ?_
        refine J.inBlock ?_
        refine J.region rfl ?_
        refine JO.pur rfl rfl rfl (Pur.move rfl) ?_
        refine JO.pur rfl rfl rfl (Pur.add rfl rfl (wr64 (by omega))) ?_
        refine JO.pur rfl rfl rfl (Pur.move rfl) ?_
        refine JO.pur rfl rfl rfl (Pur.sub rfl rfl (wr64 (by omega))) ?_
        refine JO.pur rfl rfl rfl (Pur.assign rfl) ?_
        refine JO.pur rfl rfl rfl (Pur.assign rfl) ?_
        refine JO.nil ?_
        exact J.weaken (.cons rfl (congrArg (Value.int .i64) (by first | rfl | (dsimp only; omega))) (.cons rfl (congrArg (Value.int .i64) (by omega)) (.cons rfl rfl .nil))) (fun h s => by rw [hst] at s; exact SubC.out h s) (ih0 (k + 1) (by omega) (by omega))
      · skip
        refine JMi.effN rfl rfl rfl (m' := 16375) rfl (Eff.storeS0 (z' := (xs.getD (xs.length - 1 - k) default)) rfl rfl rfl rfl hxk .head) ?_
        rintro _ _ ⟨rfl, rfl⟩
        refine ⟨.inl (by simp), ?_⟩
        refine JM.one (i := 3) (by kernel_rfl) ?_
        refine JMi.eff rfl rfl rfl rfl (m' := 16383) rfl (Pur.eff (Pur.move rfl)) ?_
        rintro _ _ ⟨rfl, rfl⟩
        refine ⟨.inl (.inr (by kernel_rfl)), ?_⟩
        refine JM.one (i := 14) (by kernel_rfl) ?_
        refine JMi.eff rfl rfl rfl rfl (m' := 32767) rfl (Pur.eff (Pur.idx rfl rfl rfl (by first | rfl | (simp; done) | omega | (rw [List.length_set, hrl])) hjj (by rw [List.length_set]; omega))) ?_
        rintro _ _ ⟨rfl, rfl⟩
        refine ⟨.inl (.inr (by kernel_rfl)), ?_⟩
        refine JM.one (i := 15) (by kernel_rfl) ?_
        refine JMi.effN rfl rfl rfl (m' := 65535) rfl (Eff.storeS0 (z' := (xs.getD k default)) rfl rfl rfl rfl (List.getElem?_eq_getElem (by rw [List.length_set]; omega)) .head) ?_
        rintro _ _ ⟨rfl, rfl⟩
        refine ⟨.inl (by simp), ?_⟩
        refine JM.done rfl ?_
        refine J.inBlock ?_
        refine J.region rfl ?_
        refine JO.pur rfl rfl rfl (Pur.move rfl) ?_
        refine JO.pur rfl rfl rfl (Pur.add rfl rfl (wr64 (by omega))) ?_
        refine JO.pur rfl rfl rfl (Pur.move rfl) ?_
        refine JO.pur rfl rfl rfl (Pur.sub rfl rfl (wr64 (by omega))) ?_
        refine JO.pur rfl rfl rfl (Pur.assign rfl) ?_
        refine JO.pur rfl rfl rfl (Pur.assign rfl) ?_
        refine JO.nil ?_
        exact J.weaken (.cons rfl (congrArg (Value.int .i64) (by first | rfl | (dsimp only; omega))) (.cons rfl (congrArg (Value.int .i64) (by omega)) (.cons rfl rfl .nil))) (fun h s => by rw [hst] at s; exact SubC.out h s) (ih0 (k + 1) (by omega) (by omega))
    · skip
      refine JMi.eff rfl rfl rfl rfl (m' := 8187) rfl (Pur.eff (Pur.move rfl)) ?_
      rintro _ _ ⟨rfl, rfl⟩
      refine ⟨.inr (fun _ h => h), ?_⟩
      refine JM.many (rs := [2, 13]) (by kernel_rfl) rfl (fun i hi => ?_)
      simp only [List.mem_cons, List.not_mem_nil, or_false] at hi
      rcases hi with rfl | rfl
      · skip
        refine JMi.eff rfl rfl rfl rfl (m' := 8191) rfl (Pur.eff (Pur.move rfl)) ?_
        rintro _ _ ⟨rfl, rfl⟩
        refine ⟨.inr (fun _ h => h), ?_⟩
        refine JM.one (i := 13) (by kernel_rfl) ?_
        refine JMi.effN rfl rfl rfl (m' := 16383) rfl (Eff.storeS0 (z' := (xs.getD (xs.length - 1 - k) default)) rfl rfl rfl rfl hxk .head) ?_
        rintro _ _ ⟨rfl, rfl⟩
        refine ⟨.inl (by simp), ?_⟩
        refine JM.one (i := 14) (by kernel_rfl) ?_
        refine JMi.eff rfl rfl rfl rfl (m' := 32767) rfl (Pur.eff (Pur.idx rfl rfl rfl (by first | rfl | (simp; done) | omega | (rw [List.length_set, hrl])) hjj (by rw [List.length_set]; omega))) ?_
        rintro _ _ ⟨rfl, rfl⟩
        refine ⟨.inl (.inr (by kernel_rfl)), ?_⟩
        refine JM.one (i := 15) (by kernel_rfl) ?_
        refine JMi.effN rfl rfl rfl (m' := 65535) rfl (Eff.storeS0 (z' := (xs.getD k default)) rfl rfl rfl rfl (List.getElem?_eq_getElem (by rw [List.length_set]; omega)) .head) ?_
        rintro _ _ ⟨rfl, rfl⟩
        refine ⟨.inl (by simp), ?_⟩
        refine JM.done rfl ?_
        refine J.inBlock ?_
        refine J.region rfl ?_
        refine JO.pur rfl rfl rfl (Pur.move rfl) ?_
        refine JO.pur rfl rfl rfl (Pur.add rfl rfl (wr64 (by omega))) ?_
        refine JO.pur rfl rfl rfl (Pur.move rfl) ?_
        refine JO.pur rfl rfl rfl (Pur.sub rfl rfl (wr64 (by omega))) ?_
        refine JO.pur rfl rfl rfl (Pur.assign rfl) ?_
        refine JO.pur rfl rfl rfl (Pur.assign rfl) ?_
        refine JO.nil ?_
        exact J.weaken (.cons rfl (congrArg (Value.int .i64) (by first | rfl | (dsimp only; omega))) (.cons rfl (congrArg (Value.int .i64) (by omega)) (.cons rfl rfl .nil))) (fun h s => by rw [hst] at s; exact SubC.out h s) (ih0 (k + 1) (by omega) (by omega))
      · skip
        refine JMi.effN rfl rfl rfl (m' := 16379) rfl (Eff.storeS0 (z' := (xs.getD (xs.length - 1 - k) default)) rfl rfl rfl rfl hxk .head) ?_
        rintro _ _ ⟨rfl, rfl⟩
        refine ⟨.inl (by simp), ?_⟩
        refine JM.one (i := 2) (by kernel_rfl) ?_
        refine JMi.eff rfl rfl rfl rfl (m' := 16383) rfl (Pur.eff (Pur.move rfl)) ?_
        rintro _ _ ⟨rfl, rfl⟩
        refine ⟨.inl (.inr (by kernel_rfl)), ?_⟩
        refine JM.one (i := 14) (by kernel_rfl) ?_
        refine JMi.eff rfl rfl rfl rfl (m' := 32767) rfl (Pur.eff (Pur.idx rfl rfl rfl (by first | rfl | (simp; done) | omega | (rw [List.length_set, hrl])) hjj (by rw [List.length_set]; omega))) ?_
        rintro _ _ ⟨rfl, rfl⟩
        refine ⟨.inl (.inr (by kernel_rfl)), ?_⟩
        refine JM.one (i := 15) (by kernel_rfl) ?_
        refine JMi.effN rfl rfl rfl (m' := 65535) rfl (Eff.storeS0 (z' := (xs.getD k default)) rfl rfl rfl rfl (List.getElem?_eq_getElem (by rw [List.length_set]; omega)) .head) ?_
        rintro _ _ ⟨rfl, rfl⟩
        refine ⟨.inl (by simp), ?_⟩
        refine JM.done rfl ?_
        refine J.inBlock ?_
        refine J.region rfl ?_
        refine JO.pur rfl rfl rfl (Pur.move rfl) ?_
        refine JO.pur rfl rfl rfl (Pur.add rfl rfl (wr64 (by omega))) ?_
        refine JO.pur rfl rfl rfl (Pur.move rfl) ?_
        refine JO.pur rfl rfl rfl (Pur.sub rfl rfl (wr64 (by omega))) ?_
        refine JO.pur rfl rfl rfl (Pur.assign rfl) ?_
        refine JO.pur rfl rfl rfl (Pur.assign rfl) ?_
        refine JO.nil ?_
        exact J.weaken (.cons rfl (congrArg (Value.int .i64) (by first | rfl | (dsimp only; omega))) (.cons rfl (congrArg (Value.int .i64) (by omega)) (.cons rfl rfl .nil))) (fun h s => by rw [hst] at s; exact SubC.out h s) (ih0 (k + 1) (by omega) (by omega))
    · skip
      refine JMi.effN rfl rfl rfl (m' := 16371) rfl (Eff.storeS0 (z' := (xs.getD (xs.length - 1 - k) default)) rfl rfl rfl rfl hxk .head) ?_
      rintro _ _ ⟨rfl, rfl⟩
      refine ⟨.inl (by simp), ?_⟩
      refine JM.many (rs := [2, 3]) (by kernel_rfl) rfl (fun i hi => ?_)
      simp only [List.mem_cons, List.not_mem_nil, or_false] at hi
      rcases hi with rfl | rfl
      · skip
        refine JMi.eff rfl rfl rfl rfl (m' := 16375) rfl (Pur.eff (Pur.move rfl)) ?_
        rintro _ _ ⟨rfl, rfl⟩
        refine ⟨.inl (.inr (by kernel_rfl)), ?_⟩
        refine JM.one (i := 3) (by kernel_rfl) ?_
        refine JMi.eff rfl rfl rfl rfl (m' := 16383) rfl (Pur.eff (Pur.move rfl)) ?_
        rintro _ _ ⟨rfl, rfl⟩
        refine ⟨.inl (.inr (by kernel_rfl)), ?_⟩
        refine JM.one (i := 14) (by kernel_rfl) ?_
        refine JMi.eff rfl rfl rfl rfl (m' := 32767) rfl (Pur.eff (Pur.idx rfl rfl rfl (by first | rfl | (simp; done) | omega | (rw [List.length_set, hrl])) hjj (by rw [List.length_set]; omega))) ?_
        rintro _ _ ⟨rfl, rfl⟩
        refine ⟨.inl (.inr (by kernel_rfl)), ?_⟩
        refine JM.one (i := 15) (by kernel_rfl) ?_
        refine JMi.effN rfl rfl rfl (m' := 65535) rfl (Eff.storeS0 (z' := (xs.getD k default)) rfl rfl rfl rfl (List.getElem?_eq_getElem (by rw [List.length_set]; omega)) .head) ?_
        rintro _ _ ⟨rfl, rfl⟩
        refine ⟨.inl (by simp), ?_⟩
        refine JM.done rfl ?_
        refine J.inBlock ?_
        refine J.region rfl ?_
        refine JO.pur rfl rfl rfl (Pur.move rfl) ?_
        refine JO.pur rfl rfl rfl (Pur.add rfl rfl (wr64 (by omega))) ?_
        refine JO.pur rfl rfl rfl (Pur.move rfl) ?_
        refine JO.pur rfl rfl rfl (Pur.sub rfl rfl (wr64 (by omega))) ?_
        refine JO.pur rfl rfl rfl (Pur.assign rfl) ?_
        refine JO.pur rfl rfl rfl (Pur.assign rfl) ?_
        refine JO.nil ?_
        exact J.weaken (.cons rfl (congrArg (Value.int .i64) (by first | rfl | (dsimp only; omega))) (.cons rfl (congrArg (Value.int .i64) (by omega)) (.cons rfl rfl .nil))) (fun h s => by rw [hst] at s; exact SubC.out h s) (ih0 (k + 1) (by omega) (by omega))
      · skip
        refine JMi.eff rfl rfl rfl rfl (m' := 16379) rfl (Pur.eff (Pur.move rfl)) ?_
        rintro _ _ ⟨rfl, rfl⟩
        refine ⟨.inl (.inr (by kernel_rfl)), ?_⟩
        refine JM.one (i := 2) (by kernel_rfl) ?_
        refine JMi.eff rfl rfl rfl rfl (m' := 16383) rfl (Pur.eff (Pur.move rfl)) ?_
        rintro _ _ ⟨rfl, rfl⟩
        refine ⟨.inl (.inr (by kernel_rfl)), ?_⟩
        refine JM.one (i := 14) (by kernel_rfl) ?_
        refine JMi.eff rfl rfl rfl rfl (m' := 32767) rfl (Pur.eff (Pur.idx rfl rfl rfl (by first | rfl | (simp; done) | omega | (rw [List.length_set, hrl])) hjj (by rw [List.length_set]; omega))) ?_
        rintro _ _ ⟨rfl, rfl⟩
        refine ⟨.inl (.inr (by kernel_rfl)), ?_⟩
        refine JM.one (i := 15) (by kernel_rfl) ?_
        refine JMi.effN rfl rfl rfl (m' := 65535) rfl (Eff.storeS0 (z' := (xs.getD k default)) rfl rfl rfl rfl (List.getElem?_eq_getElem (by rw [List.length_set]; omega)) .head) ?_
        rintro _ _ ⟨rfl, rfl⟩
        refine ⟨.inl (by simp), ?_⟩
        refine JM.done rfl ?_
        refine J.inBlock ?_
        refine J.region rfl ?_
        refine JO.pur rfl rfl rfl (Pur.move rfl) ?_
        refine JO.pur rfl rfl rfl (Pur.add rfl rfl (wr64 (by omega))) ?_
        refine JO.pur rfl rfl rfl (Pur.move rfl) ?_
        refine JO.pur rfl rfl rfl (Pur.sub rfl rfl (wr64 (by omega))) ?_
        refine JO.pur rfl rfl rfl (Pur.assign rfl) ?_
        refine JO.pur rfl rfl rfl (Pur.assign rfl) ?_
        refine JO.nil ?_
        exact J.weaken (.cons rfl (congrArg (Value.int .i64) (by first | rfl | (dsimp only; omega))) (.cons rfl (congrArg (Value.int .i64) (by omega)) (.cons rfl rfl .nil))) (fun h s => by rw [hst] at s; exact SubC.out h s) (ih0 (k + 1) (by omega) (by omega))
  · try simp only [decide_eq_true_eq, decide_eq_false_iff_not, Bool.not_eq_true', Bool.not_eq_false', Bool.and_eq_true, Bool.or_eq_true, Bool.and_eq_false_iff, Bool.or_eq_false_iff, Option.isNone_some, Option.isSome_some, Option.isNone_none, Option.isSome_none, Int.not_lt, Int.not_le, beq_iff_eq, beq_eq_false_iff_ne, bne_iff_ne, ne_eq, Bool.not_not, Decidable.not_not] at h9
    refine J.condF rfl rfl ?_
    refine J.exit rfl rfl ?_
    refine J.fin rfl ?_
    obtain hke : xs.length - 1 - k ≤ k := by omega
    refine ⟨_, _, ⟨rfl, rfl⟩, rfl, fun h s => ?_⟩
    rw [rvL_all hke] at s
    exact SubC.out h s

def trD (rs : List Rg) : List Rg := if okD rs then (canD rs).reverse else []
theorem fold_mul : ∀ (d : List Rg) (a : Nat), d.foldl (fun n r => n * cnt r) a = a * cntD d
  | [], a => by simp [cntD]
  | r :: d, a => by
    show d.foldl _ (a * cnt r) = a * d.foldl _ (1 * cnt r)
    rw [fold_mul d (a * cnt r), fold_mul d (1 * cnt r), Nat.one_mul, Nat.mul_assoc]
theorem cntD_cons (r : Rg) (d : List Rg) : cntD (r :: d) = cnt r * cntD d := by
  show d.foldl _ (1 * cnt r) = _
  rw [fold_mul, Nat.one_mul]
theorem cntD_rev : ∀ (d : List Rg), cntD d.reverse = cntD d
  | [] => rfl
  | r :: d => by rw [List.reverse_cons, cntD_snoc, cntD_rev d, cntD_cons, Nat.mul_comm]
theorem okD_rev {d : List Rg} : okD d.reverse ↔ okD d := by
  unfold okD okRs
  rw [List.length_reverse, cntD_rev]
  simp only [List.mem_reverse]
theorem canD_rev (d : List Rg) : canD d.reverse = (canD d).reverse := by
  unfold canD
  rw [cntD_rev]
  split <;> rw [List.map_reverse]
theorem trD_eq (rs : List Rg) : cdV rs.reverse = trD rs := by
  unfold cdV trD
  by_cases h : okD rs
  · rw [if_pos h, if_pos (okD_rev.2 h), canD_rev]
  · rw [if_neg h, if_neg (fun g => h (okD_rev.1 g))]
theorem erD_rev (rs : List Rg) : erD rs.reverse = erD rs := by
  unfold erD
  by_cases h : okD rs
  · rw [if_pos h, if_pos (okD_rev.2 h)]
  · rw [if_neg h, if_neg (fun g => h (okD_rev.1 g))]
theorem d_Transpose {L : List Asn} {a : Option Addr} {n cap : Nat} {rs : List Rg} [SlIn rgE L a rs] (hn : n = rs.length) :
    CallS Try.prog 109 [.agg #[.slice a n cap]].toArray L (fun v M => ∃ a' c', v = .tuple #[.agg #[.slice a' (trD rs).length c'], .int .i64 (erD rs)] ∧ M = sl rgE a' c' (trD rs) :: L) := by
  subst hn
  refine CallS.ent ?_
  refine CallS.enter Try.func109 rfl rfl rfl rfl rfl ?_
  refine J.seq rfl ?_
  refine J.region rfl ?_
  refine JO.eff rfl rfl rfl (Eff.box (cs := [_]) rfl rfl) ?_
  rintro _ _ ⟨b1, rfl, rfl⟩
  refine JO.eff rfl rfl rfl (Eff.alloc (cs := [_]) rfl) ?_
  rintro _ _ ⟨b2, rfl, rfl⟩
  refine JO.pur rfl rfl rfl (Pur.assign rfl) ?_
  refine JO.nil ?_
  refine J.seq rfl ?_
  refine J.seq rfl ?_
  refine J.region rfl ?_
  refine JO.pur rfl rfl rfl (Pur.loadA rfl rfl rfl CellsIn.blk) ?_
  refine JO.effR rfl rfl rfl (Eff.call rfl (d_Valid (rs := rs) rfl)) ?_
  refine JO.pur rfl rfl rfl (Pur.not rfl) ?_
  refine JO.nil ?_
  refine J.splitB 7 rfl (fun h7 => ?_) (fun h7 => ?_)
  · try simp only [decide_eq_true_eq, decide_eq_false_iff_not, Bool.not_eq_true', Bool.not_eq_false', Bool.and_eq_true, Bool.or_eq_true, Bool.and_eq_false_iff, Bool.or_eq_false_iff, Option.isNone_some, Option.isSome_some, Option.isNone_none, Option.isSome_none, Int.not_lt, Int.not_le, beq_iff_eq, beq_eq_false_iff_ne, bne_iff_ne, ne_eq, Bool.not_not, Decidable.not_not] at h7
    have hbad : ¬ okD rs := by simpa using h7
    refine J.condT rfl rfl ?_
    refine J.seq rfl ?_
    refine J.region rfl ?_
    refine JO.pur rfl rfl rfl (Pur.build (cs := [_]) rfl rfl) ?_
    refine JO.effN rfl rfl (Eff.storeBA (cs' := [_]) rfl rfl (by rfl) (by rfl) (by rfl)) ?_
    rintro _ _ ⟨rfl, rfl⟩
    refine JO.pur rfl rfl rfl (Pur.assign rfl) ?_
    refine JO.nil ?_
    refine J.retC rfl (.cell rfl (ld_agg rfl CellsIn.blk) (.tmp rfl .nil)) ?_
    refine ⟨_, _, ⟨none, 0, rfl, rfl⟩, ?_, fun h s => ?_⟩
    · unfold trD erD; rw [if_neg hbad, if_neg hbad]; rfl
    · unfold trD; rw [if_neg hbad]; exact sl_nil_new (SubC.out h s)
  · try simp only [decide_eq_true_eq, decide_eq_false_iff_not, Bool.not_eq_true', Bool.not_eq_false', Bool.and_eq_true, Bool.or_eq_true, Bool.and_eq_false_iff, Bool.or_eq_false_iff, Option.isNone_some, Option.isSome_some, Option.isNone_none, Option.isSome_none, Int.not_lt, Int.not_le, beq_iff_eq, beq_eq_false_iff_ne, bne_iff_ne, ne_eq, Bool.not_not, Decidable.not_not] at h7
    have hgood : okD rs := by simpa using h7
    have hl3 := hgood.2.1
    have hcl := canD_len rs
    refine J.condF rfl rfl ?_
    refine J.skip rfl ?_
    refine J.seq rfl ?_
    refine J.region rfl ?_
    refine JO.pur rfl rfl rfl (Pur.loadA rfl rfl rfl CellsIn.blk) ?_
    refine JO.eff rfl rfl rfl (Eff.call rfl (d_canon (rs := rs) rfl hgood)) ?_
    rintro _ _ ⟨a10, c10, rfl, rfl⟩
    refine JO.eff rfl rfl rfl (Eff.alloc (cs := [_]) rfl) ?_
    rintro _ _ ⟨b4, rfl, rfl⟩
    refine JO.effN rfl rfl (Eff.storeBA (cs' := [_]) rfl rfl (by rfl) (by rfl) (by rfl)) ?_
    rintro _ _ ⟨rfl, rfl⟩
    refine JO.nil ?_
    refine J.seq rfl ?_
    refine J.region rfl ?_
    refine JO.pur rfl rfl rfl (Pur.fieldAddr rfl) ?_
    refine JO.pur rfl rfl rfl (Pur.load rfl (CellIn.blk rfl)) ?_
    refine JO.pullC (A := sl rgE a10 c10 (canD rs)) inferInstance ?_
    refine JO.eff rfl rfl rfl (Eff.call rfl (revR_ok (xs := canD rs) (by rw [hcl]) (by omega))) ?_
    rintro _ _ ⟨rfl, rfl⟩
    refine JO.nil ?_
    refine J.seq rfl ?_
    refine J.region rfl ?_
    refine JO.pur rfl rfl rfl (Pur.loadA rfl rfl rfl CellsIn.blk) ?_
    refine JO.effN rfl rfl (Eff.storeBA (cs' := [_]) rfl rfl (by rfl) (by rfl) (by rfl)) ?_
    rintro _ _ ⟨rfl, rfl⟩
    refine JO.pur rfl rfl rfl (Pur.assign rfl) ?_
    refine JO.nil ?_
    refine J.retC rfl (.cell rfl (ld_agg rfl CellsIn.blk) (.tmp rfl .nil)) ?_
    refine ⟨_, _, ⟨a10, c10, rfl, rfl⟩, ?_, fun h s => ?_⟩
    · unfold trD erD; rw [if_pos hgood, if_pos hgood, List.length_reverse, hcl]; rfl
    · unfold trD; rw [if_pos hgood]; exact SubC.out h s

theorem r_done {L : List Asn} {a : Option Addr} {n cap : Nat} {rs : List Rg} [SlIn rgE L a rs] (hn : n = rs.length) :
    CallS Try.prog 161 [.slice a n cap].toArray L (fun v M => ∃ a' c', v = .tuple #[.agg #[.slice a' (cdV rs).length c'], .int .i64 (erD rs)] ∧ M = sl rgE a' c' (cdV rs) :: L) := by
  subst hn
  refine CallS.ent ?_
  refine CallS.enter Try.func161 rfl rfl rfl rfl rfl ?_
  refine J.seq rfl ?_
  refine J.region rfl ?_
  refine JO.eff rfl rfl rfl (Eff.alloc (cs := [_]) rfl) ?_
  rintro _ _ ⟨b2, rfl, rfl⟩
  refine JO.pur rfl rfl rfl (Pur.assign rfl) ?_
  refine JO.nil ?_
  refine J.seq rfl ?_
  refine J.region rfl ?_
  refine JO.pur rfl rfl rfl (Pur.move rfl) ?_
  refine JO.pur rfl rfl rfl (Pur.build (cs := [_]) rfl rfl) ?_
  refine JO.eff rfl rfl rfl (Eff.call rfl (r_Canon (rs := rs) rfl)) ?_
  rintro _ _ ⟨a6, c6, rfl, rfl⟩
  refine JO.pur rfl rfl rfl (Pur.extract rfl rfl) ?_
  refine JO.pur rfl rfl rfl (Pur.extract rfl rfl) ?_
  refine JO.effN rfl rfl (Eff.storeBA (cs' := [_]) rfl rfl (by rfl) (by rfl) (by rfl)) ?_
  rintro _ _ ⟨rfl, rfl⟩
  refine JO.pur rfl rfl rfl (Pur.assign rfl) ?_
  refine JO.nil ?_
  refine J.retC rfl (.cell rfl (ld_agg rfl CellsIn.blk) (.tmp rfl .nil)) ?_
  exact ⟨_, _, ⟨a6, c6, rfl, rfl⟩, rfl, SubC.out⟩

theorem r_Transpose {L : List Asn} {a : Option Addr} {n cap : Nat} {rs : List Rg} [SlIn rgE L a rs] (hn : n = rs.length) :
    CallS Try.prog 114 [.agg #[.slice a n cap]].toArray L (fun v M => ∃ a' c', v = .tuple #[.agg #[.slice a' (trD rs).length c'], .int .i64 (erD rs)] ∧ M = sl rgE a' c' (trD rs) :: L) := by
  subst hn
  refine CallS.ent ?_
  refine CallS.enter Try.func114 rfl rfl rfl rfl rfl ?_
  refine J.seq rfl ?_
  refine J.region rfl ?_
  refine JO.eff rfl rfl rfl (Eff.box (cs := [_]) rfl rfl) ?_
  rintro _ _ ⟨b1, rfl, rfl⟩
  refine JO.eff rfl rfl rfl (Eff.alloc (cs := [_]) rfl) ?_
  rintro _ _ ⟨b2, rfl, rfl⟩
  refine JO.pur rfl rfl rfl (Pur.assign rfl) ?_
  refine JO.nil ?_
  refine J.seq rfl ?_
  refine J.seq rfl ?_
  refine J.region rfl ?_
  refine JO.pur rfl rfl rfl (Pur.loadA rfl rfl rfl CellsIn.blk) ?_
  refine JO.effR rfl rfl rfl (Eff.call rfl (r_Valid (rs := rs) rfl)) ?_
  refine JO.pur rfl rfl rfl (Pur.not rfl) ?_
  refine JO.nil ?_
  refine J.splitB 8 rfl (fun h8 => ?_) (fun h8 => ?_)
  · try simp only [decide_eq_true_eq, decide_eq_false_iff_not, Bool.not_eq_true', Bool.not_eq_false', Bool.and_eq_true, Bool.or_eq_true, Bool.and_eq_false_iff, Bool.or_eq_false_iff, Option.isNone_some, Option.isSome_some, Option.isNone_none, Option.isSome_none, Int.not_lt, Int.not_le, beq_iff_eq, beq_eq_false_iff_ne, bne_iff_ne, ne_eq, Bool.not_not, Decidable.not_not] at h8
    have hbad : ¬ okD rs := by simpa using h8
    refine J.condT rfl rfl ?_
    refine J.seq rfl ?_
    refine J.region rfl ?_
    refine JO.pur rfl rfl rfl (Pur.build (cs := [_]) rfl rfl) ?_
    refine JO.effN rfl rfl (Eff.storeBA (cs' := [_]) rfl rfl (by rfl) (by rfl) (by rfl)) ?_
    rintro _ _ ⟨rfl, rfl⟩
    refine JO.pur rfl rfl rfl (Pur.assign rfl) ?_
    refine JO.nil ?_
    refine J.retC rfl (.cell rfl (ld_agg rfl CellsIn.blk) (.tmp rfl .nil)) ?_
    refine ⟨_, _, ⟨none, 0, rfl, rfl⟩, ?_, fun h s => ?_⟩
    · unfold trD erD; rw [if_neg hbad, if_neg hbad]; rfl
    · unfold trD; rw [if_neg hbad]; exact sl_nil_new (SubC.out h s)
  · try simp only [decide_eq_true_eq, decide_eq_false_iff_not, Bool.not_eq_true', Bool.not_eq_false', Bool.and_eq_true, Bool.or_eq_true, Bool.and_eq_false_iff, Bool.or_eq_false_iff, Option.isNone_some, Option.isSome_some, Option.isNone_none, Option.isSome_none, Int.not_lt, Int.not_le, beq_iff_eq, beq_eq_false_iff_ne, bne_iff_ne, ne_eq, Bool.not_not, Decidable.not_not] at h8
    have hgood : okD rs := by simpa using h8
    have hl3 := hgood.2.1
    refine J.condF rfl rfl ?_
    refine J.skip rfl ?_
    refine J.seq rfl ?_
    refine J.region rfl ?_
    refine JO.pur rfl rfl rfl (Pur.assign rfl) ?_
    refine JO.nil ?_
    refine J.seq rfl ?_
    refine J.seq rfl ?_
    refine J.region rfl ?_
    refine JO.pur rfl rfl rfl (Pur.fieldAddr rfl) ?_
    refine JO.pur rfl rfl rfl (Pur.load rfl (CellIn.blk rfl)) ?_
    refine JO.pur rfl rfl rfl (Pur.len rfl) ?_
    refine JO.pur rfl rfl rfl (Pur.sub rfl rfl (wr64 (by omega))) ?_
    refine JO.pur rfl rfl rfl (Pur.assign rfl) ?_
    refine JO.nil ?_
    refine J.block rfl ?_
    refine J.loopF (ι := Nat × Option Addr × Nat) (fun q => q.1 ≤ rs.length) (fun q => [(4, .slice q.2.1 (rs.length - q.1) q.2.2), (5, .int .i64 ((q.1 : Int) - 1))]) [(1, _), (2, _)] (fun q => sl rgE q.2.1 q.2.2 ((rs.drop q.1).reverse) :: blk b2 (.cells #[.slice none 0 0] 24) :: blk b1 (.cells #[.slice a rs.length cap] 24) :: L) (fun q => q.1) (rs.length, none, 0) rfl (.cons rfl rfl (.cons rfl rfl .nil)) (.cons rfl (by dsimp only; rw [Nat.sub_self]) (.cons rfl rfl .nil)) (fun h s => by have s2 := sl_nil_new (E := rgE) s; dsimp only; rw [List.drop_length, List.reverse_nil]; exact SubC.out (L := sl rgE none 0 [] :: _) h s2) (Nat.le_refl _) ?_
    rintro ⟨k, a4, c4⟩ hk ih0
    try dsimp only
    dsimp only at hk
    have htl : ((rs.drop k).reverse).length = rs.length - k := by simp
    refine J.seq rfl ?_
    refine J.seq rfl ?_
    refine J.region rfl ?_
    refine JO.pur rfl rfl rfl (Pur.move rfl) ?_
    refine JO.pur rfl rfl rfl (Pur.geq rfl rfl) ?_
    refine JO.nil ?_
    refine J.splitB 15 rfl (fun h15 => ?_) (fun h15 => ?_)
    · try simp only [decide_eq_true_eq, decide_eq_false_iff_not, Bool.not_eq_true', Bool.not_eq_false', Bool.and_eq_true, Bool.or_eq_true, Bool.and_eq_false_iff, Bool.or_eq_false_iff, Option.isNone_some, Option.isSome_some, Option.isNone_none, Option.isSome_none, Int.not_lt, Int.not_le, beq_iff_eq, beq_eq_false_iff_ne, bne_iff_ne, ne_eq, Bool.not_not, Decidable.not_not] at h15
      obtain ⟨j, rfl⟩ : ∃ j, k = j + 1 := ⟨k - 1, by omega⟩
      have hjl : j < rs.length := by omega
      have hxj := getD_some hjl
      have hap1 : (rs.drop j).reverse = (rs.drop (j + 1)).reverse ++ [rs.getD j default] := by
        have e : rs.drop j = rs.getD j default :: rs.drop (j + 1) := by rw [List.drop_eq_getElem_cons hjl, List.getD_eq_getElem?_getD, List.getElem?_eq_getElem hjl]; rfl
        rw [e, List.reverse_cons]
      generalize hrr : rs.getD j default = r at *
      have hjj : ((j + 1 : Nat) : Int) - 1 = (j : Int) := by omega
      refine J.condT rfl rfl ?_
      refine J.skip rfl ?_
      refine J.seq rfl ?_
      refine J.block rfl ?_
      refine J.region rfl ?_
      refine JO.pur rfl rfl rfl (Pur.move rfl) ?_
      refine JO.pur rfl rfl rfl (Pur.fieldAddr rfl) ?_
      refine JO.pur rfl rfl rfl (Pur.load rfl (CellIn.blk rfl)) ?_
      refine JO.pur rfl rfl rfl (Pur.move rfl) ?_
      refine JO.pur rfl rfl rfl (Pur.idx rfl rfl rfl (by first | rfl | (simp; done) | omega) hjj (by omega)) ?_
      refine JO.pur rfl rfl rfl (Pur.loadA rfl rfl rfl (CellsIn.el rfl hxj)) ?_
      refine JO.setv (u' := rgV r) 23 rfl rfl ?_
      refine JO.eff rfl rfl rfl (Eff.buildSlice rgE [r] rfl rfl rfl rfl rfl rfl rfl) ?_
      rintro _ _ ⟨b24, rfl, -, rfl⟩
      refine JO.eff rfl rfl rfl (Eff.append rfl rfl rfl rfl (by first | rfl | omega | (simp; done) | (simp; omega)) (by first | rfl | omega | (simp; done) | (simp; omega)) (by decide) (by simp; omega) (by simp; omega) (fun h => by cases h)) ?_
      rintro _ _ ⟨a25, c25, rfl, rfl⟩
      refine JO.pur rfl rfl rfl (Pur.assign rfl) ?_
      refine JO.nil ?_
      refine J.inBlock ?_
      refine J.region rfl ?_
      refine JO.pur rfl rfl rfl (Pur.move rfl) ?_
      refine JO.pur rfl rfl rfl (Pur.sub rfl rfl (wr64 (by omega))) ?_
      refine JO.pur rfl rfl rfl (Pur.assign rfl) ?_
      refine JO.nil ?_
      exact J.weaken (.cons rfl (by show Value.slice a25 _ c25 = Value.slice a25 (rs.length - j) c25; rw [htl]; exact congrArg (fun z => Value.slice a25 z c25) (by simp only [List.length_cons, List.length_nil]; omega)) (.cons rfl (congrArg (Value.int .i64) (by dsimp only; omega)) (.cons rfl rfl (.cons rfl rfl .nil)))) (fun h s => by rw [← hap1] at s; exact SubC.out h s) (ih0 (j, a25, c25) (by dsimp only; omega) (by dsimp only; omega))
    · try simp only [decide_eq_true_eq, decide_eq_false_iff_not, Bool.not_eq_true', Bool.not_eq_false', Bool.and_eq_true, Bool.or_eq_true, Bool.and_eq_false_iff, Bool.or_eq_false_iff, Option.isNone_some, Option.isSome_some, Option.isNone_none, Option.isSome_none, Int.not_lt, Int.not_le, beq_iff_eq, beq_eq_false_iff_ne, bne_iff_ne, ne_eq, Bool.not_not, Decidable.not_not] at h15
      obtain rfl : k = 0 := by omega
      rw [List.drop_zero, Nat.sub_zero]
      refine J.condF rfl rfl ?_
      refine J.exit rfl rfl ?_
      refine J.seq rfl ?_
      refine J.region rfl ?_
      refine JO.pur rfl rfl rfl (Pur.move rfl) ?_
      refine JO.eff rfl rfl rfl (Eff.call rfl (r_done (rs := rs.reverse) (by simp))) ?_
      rintro _ _ ⟨a27, c27, rfl, rfl⟩
      rw [trD_eq, erD_rev]
      refine JO.pur rfl rfl rfl (Pur.extract rfl rfl) ?_
      refine JO.pur rfl rfl rfl (Pur.extract rfl rfl) ?_
      refine JO.effN rfl rfl (Eff.storeBA (cs' := [_]) rfl rfl (by rfl) (by rfl) (by rfl)) ?_
      rintro _ _ ⟨rfl, rfl⟩
      refine JO.pur rfl rfl rfl (Pur.assign rfl) ?_
      refine JO.nil ?_
      refine J.retC rfl (.cell rfl (ld_agg rfl CellsIn.blk) (.tmp rfl .nil)) ?_
      exact ⟨_, _, ⟨a27, c27, rfl, rfl⟩, rfl, SubC.out⟩

theorem ixs_len (rs : List Rg) : (((ixsV rs).length : Nat) : Int) = ctV rs := by
  unfold ixsV ctV
  split
  · rw [idx_len]
  · rfl
theorem erD_ne {rs : List Rg} : erD rs ≠ 0 ↔ ¬ okD rs := by
  unfold erD
  by_cases h : okD rs
  · rw [if_pos h]; simp [h]
  · rw [if_neg h]; simp [h]
theorem r_Count {L : List Asn} {a : Option Addr} {n cap : Nat} {rs : List Rg} [SlIn rgE L a rs] (hn : n = rs.length) :
    CallS Try.prog 63 [.agg #[.slice a n cap]].toArray L (fun v M => v = .tuple #[.int .i64 (ctV rs), .int .i64 (erD rs)] ∧ M = L) := by
  subst hn
  refine CallS.ent ?_
  refine CallS.enter Try.func63 rfl rfl rfl rfl rfl ?_
  refine J.seq rfl ?_
  refine J.region rfl ?_
  refine JO.eff rfl rfl rfl (Eff.box (cs := [_]) rfl rfl) ?_
  rintro _ _ ⟨b1, rfl, rfl⟩
  refine JO.pur rfl rfl rfl (Pur.assign rfl) ?_
  refine JO.pur rfl rfl rfl (Pur.assign rfl) ?_
  refine JO.nil ?_
  refine J.seq rfl ?_
  refine J.region rfl ?_
  refine JO.pur rfl rfl rfl (Pur.loadA rfl rfl rfl CellsIn.blk) ?_
  refine JO.eff rfl rfl rfl (Eff.call rfl (r_Indexes (rs := rs) rfl)) ?_
  rintro _ _ ⟨a8, c8, hs, rfl, rfl⟩
  refine JO.pur rfl rfl rfl (Pur.move rfl) ?_
  refine JO.pur rfl rfl rfl (Pur.extract rfl rfl) ?_
  refine JO.pur rfl rfl rfl (Pur.extract rfl rfl) ?_
  refine JO.pur rfl rfl rfl (Pur.assign rfl) ?_
  refine JO.pur rfl rfl rfl (Pur.assign rfl) ?_
  refine JO.nil ?_
  refine J.seq rfl ?_
  refine J.region rfl ?_
  refine JO.pur rfl rfl rfl (Pur.move rfl) ?_
  refine JO.pur rfl rfl rfl (Pur.len rfl) ?_
  refine JO.pur rfl rfl rfl (Pur.move rfl) ?_
  refine JO.pur rfl rfl rfl (Pur.assign rfl) ?_
  refine JO.pur rfl rfl rfl (Pur.assign rfl) ?_
  refine JO.nil ?_
  refine J.ret rfl rfl ?_
  refine ⟨_, _, ⟨rfl, rfl⟩, ?_, SubC.out⟩
  rw [← ixs_len]; rfl

theorem rd_nil {α : Type} {E : Enc α} {a : Option Addr} {L : List Asn} {h : Hp} (s : Sat h L) : Sat h (rd E a ([] : List α) :: L) := by
  refine ⟨fun _ => none, h, fun _ => .inl rfl, (fun _ _ hx => (by cases hx)), Hp.le_refl _, ?_, s⟩
  unfold rd; exact .inl rfl
theorem rd_of {α : Type} {E : Enc α} {a : Option Addr} {c : Nat} {xs : List α} {L : List Asn} {h : Hp} (s : Sat h (sl E a c xs :: L)) : Sat h (rd E a xs :: L) :=
  s.cons_imp (fun k hk => by unfold rd; exact sl.slR hk) (fun _ h => h)
theorem rd_row {α : Type} {E : Enc α} {hs : List Hdr} {xss : List (List α)} {i : Nat} {hd : Hdr} {xs : List α} {L : List Asn} {h : Hp} (h1 : hs[i]? = some hd) (h2 : xss[i]? = some xs) (s : Sat h (rows E hs xss :: L)) : Sat h (rd E hd.a xs :: L) :=
  rd_of ((rows_open h1 h2 s).cons_imp (fun _ h => h) (fun _ h => h.tail))
theorem r_Ith {L : List Asn} {a : Option Addr} {n cap : Nat} {rs : List Rg} {i : Int} [SlIn rgE L a rs] (hn : n = rs.length) :
    CallS Try.prog 153 [.agg #[.slice a n cap], .int .i64 i].toArray L (fun v M => ∃ a' c', v = .tuple #[.slice a' (ithV rs i).1.length c', .int .i64 (ithV rs i).2] ∧ M = rd intE a' (ithV rs i).1 :: L) := by
  subst hn
  refine CallS.ent ?_
  refine CallS.enter Try.func153 rfl rfl rfl rfl rfl ?_
  refine J.seq rfl ?_
  refine J.region rfl ?_
  refine JO.eff rfl rfl rfl (Eff.box (cs := [_]) rfl rfl) ?_
  rintro _ _ ⟨b2, rfl, rfl⟩
  refine JO.pur rfl rfl rfl (Pur.assign rfl) ?_
  refine JO.pur rfl rfl rfl (Pur.assign rfl) ?_
  refine JO.nil ?_
  refine J.seq rfl ?_
  refine J.region rfl ?_
  refine JO.pur rfl rfl rfl (Pur.loadA rfl rfl rfl CellsIn.blk) ?_
  refine JO.eff rfl rfl rfl (Eff.call rfl (r_Indexes (rs := rs) rfl)) ?_
  rintro _ _ ⟨a10, c10, hs, rfl, rfl⟩
  refine JO.pur rfl rfl rfl (Pur.move rfl) ?_
  refine JO.pur rfl rfl rfl (Pur.extract rfl rfl) ?_
  refine JO.pur rfl rfl rfl (Pur.extract rfl rfl) ?_
  refine JO.setv (u' := .int .i64 (erD rs)) 12 rfl rfl ?_
  refine JO.pur rfl rfl rfl (Pur.assign rfl) ?_
  refine JO.pur rfl rfl rfl (Pur.assign rfl) ?_
  refine JO.nil ?_
  refine J.seq rfl ?_
  refine J.block rfl ?_
  refine J.seq rfl ?_
  refine J.region rfl ?_
  refine JO.pur rfl rfl rfl (Pur.move rfl) ?_
  refine JO.pur rfl rfl rfl (Pur.neqI rfl rfl) ?_
  refine JO.pur rfl rfl rfl (Pur.assign rfl) ?_
  refine JO.nil ?_
  refine J.splitB 13 rfl (fun h13 => ?_) (fun h13 => ?_)
  · try simp only [decide_eq_true_eq, decide_eq_false_iff_not, Bool.not_eq_true', Bool.not_eq_false', Bool.and_eq_true, Bool.or_eq_true, Bool.and_eq_false_iff, Bool.or_eq_false_iff, Option.isNone_some, Option.isSome_some, Option.isNone_none, Option.isSome_none, Int.not_lt, Int.not_le, beq_iff_eq, beq_eq_false_iff_ne, bne_iff_ne, ne_eq, Bool.not_not, Decidable.not_not] at h13
    have hbad : ¬ okD rs := erD_ne.1 (by simpa using h13)
    refine J.condT rfl rfl ?_
    refine J.seq rfl ?_
    refine J.region rfl ?_
    refine JO.pur rfl rfl rfl (Pur.move rfl) ?_
    refine JO.pur rfl rfl rfl (Pur.assign rfl) ?_
    refine JO.pur rfl rfl rfl (Pur.assign rfl) ?_
    refine JO.nil ?_
    refine J.ret rfl rfl ?_
    have hv : ithV rs i = ([], 40) := by unfold ithV; rw [if_pos hbad]
    have he : erD rs = 40 := by unfold erD; rw [if_neg hbad]
    refine ⟨_, _, ⟨none, 0, rfl, rfl⟩, by rw [hv, he]; rfl, fun h s => ?_⟩
    rw [hv]; exact rd_nil (SubC.out h s)
  · try simp only [decide_eq_true_eq, decide_eq_false_iff_not, Bool.not_eq_true', Bool.not_eq_false', Bool.and_eq_true, Bool.or_eq_true, Bool.and_eq_false_iff, Bool.or_eq_false_iff, Option.isNone_some, Option.isSome_some, Option.isNone_none, Option.isSome_none, Int.not_lt, Int.not_le, beq_iff_eq, beq_eq_false_iff_ne, bne_iff_ne, ne_eq, Bool.not_not, Decidable.not_not] at h13
    have hgood : okD rs := by
      by_cases g : okD rs
      · exact g
      · exact absurd (erD_ne.2 g) (by simpa using h13)
    have hv0 : ixsV rs = idx rs := by unfold ixsV; rw [if_pos hgood]
    have hil : (ixsV rs).length = cntD rs := by rw [hv0, idx_len]
    refine J.condF rfl rfl ?_
    refine J.seq rfl ?_
    refine J.region rfl ?_
    refine JO.pur rfl rfl rfl (Pur.move rfl) ?_
    refine JO.pur rfl rfl rfl (Pur.lss rfl rfl) ?_
    refine JO.pur rfl rfl rfl (Pur.move rfl) ?_
    refine JO.splitB 20 rfl (fun h20 => ?_) (fun h20 => ?_)
    · try simp only [decide_eq_true_eq, decide_eq_false_iff_not, Bool.not_eq_true', Bool.not_eq_false', Bool.and_eq_true, Bool.or_eq_true, Bool.and_eq_false_iff, Bool.or_eq_false_iff, Option.isNone_some, Option.isSome_some, Option.isNone_none, Option.isSome_none, Int.not_lt, Int.not_le, beq_iff_eq, beq_eq_false_iff_ne, bne_iff_ne, ne_eq, Bool.not_not, Decidable.not_not] at h20
      refine JO.no rfl rfl rfl ?_
      refine JO.no rfl rfl rfl ?_
      refine JO.no rfl rfl rfl ?_
      refine JO.no rfl rfl rfl ?_
      refine JO.pur rfl rfl rfl (Pur.pickT rfl rfl) ?_
      refine JO.pur rfl rfl rfl (Pur.assign rfl) ?_
      refine JO.nil ?_
      refine J.condT rfl rfl ?_
      refine J.seq rfl ?_
      refine J.region rfl ?_
      refine JO.pur rfl rfl rfl (Pur.assign rfl) ?_
      refine JO.pur rfl rfl rfl (Pur.assign rfl) ?_
      refine JO.nil ?_
      refine J.ret rfl rfl ?_
      have hv : ithV rs i = ([], 2) := by unfold ithV; rw [if_neg (not_not_intro hgood), if_pos (by omega)]
      refine ⟨_, _, ⟨none, 0, rfl, rfl⟩, by rw [hv]; rfl, fun h s => ?_⟩
      rw [hv]; exact rd_nil (SubC.out h s)
    · try simp only [decide_eq_true_eq, decide_eq_false_iff_not, Bool.not_eq_true', Bool.not_eq_false', Bool.and_eq_true, Bool.or_eq_true, Bool.and_eq_false_iff, Bool.or_eq_false_iff, Option.isNone_some, Option.isSome_some, Option.isNone_none, Option.isSome_none, Int.not_lt, Int.not_le, beq_iff_eq, beq_eq_false_iff_ne, bne_iff_ne, ne_eq, Bool.not_not, Decidable.not_not] at h20
      refine JO.pur rfl rfl rfl (Pur.move rfl) ?_
      refine JO.pur rfl rfl rfl (Pur.move rfl) ?_
      refine JO.pur rfl rfl rfl (Pur.len rfl) ?_
      refine JO.pur rfl rfl rfl (Pur.geq rfl rfl) ?_
      refine JO.pur rfl rfl rfl (Pur.pickF rfl rfl) ?_
      refine JO.pur rfl rfl rfl (Pur.assign rfl) ?_
      refine JO.nil ?_
      refine J.splitB 17 rfl (fun h17 => ?_) (fun h17 => ?_)
      · try simp only [decide_eq_true_eq, decide_eq_false_iff_not, Bool.not_eq_true', Bool.not_eq_false', Bool.and_eq_true, Bool.or_eq_true, Bool.and_eq_false_iff, Bool.or_eq_false_iff, Option.isNone_some, Option.isSome_some, Option.isNone_none, Option.isSome_none, Int.not_lt, Int.not_le, beq_iff_eq, beq_eq_false_iff_ne, bne_iff_ne, ne_eq, Bool.not_not, Decidable.not_not] at h17
        refine J.condT rfl rfl ?_
        refine J.seq rfl ?_
        refine J.region rfl ?_
        refine JO.pur rfl rfl rfl (Pur.assign rfl) ?_
        refine JO.pur rfl rfl rfl (Pur.assign rfl) ?_
        refine JO.nil ?_
        refine J.ret rfl rfl ?_
        have hv : ithV rs i = ([], 2) := by unfold ithV; rw [if_neg (not_not_intro hgood), if_pos (by omega)]
        refine ⟨_, _, ⟨none, 0, rfl, rfl⟩, by rw [hv]; rfl, fun h s => ?_⟩
        rw [hv]; exact rd_nil (SubC.out h s)
      · try simp only [decide_eq_true_eq, decide_eq_false_iff_not, Bool.not_eq_true', Bool.not_eq_false', Bool.and_eq_true, Bool.or_eq_true, Bool.and_eq_false_iff, Bool.or_eq_false_iff, Option.isNone_some, Option.isSome_some, Option.isNone_none, Option.isSome_none, Int.not_lt, Int.not_le, beq_iff_eq, beq_eq_false_iff_ne, bne_iff_ne, ne_eq, Bool.not_not, Decidable.not_not] at h17
        refine J.condF rfl rfl ?_
        refine J.skip rfl ?_
        refine J.inBlock ?_
        refine J.seq rfl ?_
        obtain ⟨j, hj⟩ : ∃ j : Nat, i = (j : Int) := ⟨i.toNat, by omega⟩
        subst hj
        have hjl : j < cntD rs := by omega
        refine J.fact (fun h s => RowsR.len (E := intE) (hs := hs) (xss := ixsV rs) s) fun hnn => ?_
        have hhl : hs.length = (ixsV rs).length := rows_len hnn
        obtain ⟨hd, hH⟩ : ∃ hd, hs[j]? = some hd := ⟨_, List.getElem?_eq_getElem (by omega)⟩
        have hX : (ixsV rs)[j]? = some (ixD rs j) := by rw [hv0]; exact ixD_get hjl
        have hdn := hdr_n hnn hH hX
        refine J.region rfl ?_
        refine JO.pur rfl rfl rfl (Pur.move rfl) ?_
        refine JO.pur rfl rfl rfl (Pur.move rfl) ?_
        refine JO.pur rfl rfl rfl (Pur.idx rfl rfl rfl (by first | rfl | (simp; done) | omega) rfl (by omega)) ?_
        refine JO.pur rfl rfl rfl (Pur.load rfl (CellIn.el0 rfl hH rfl)) ?_
        refine JO.pur rfl rfl rfl (Pur.assign rfl) ?_
        refine JO.pur rfl rfl rfl (Pur.assign rfl) ?_
        refine JO.nil ?_
        refine J.ret rfl rfl ?_
        have hv : ithV rs ((j : Nat) : Int) = (ixD rs j, 0) := by unfold ithV; rw [if_neg (not_not_intro hgood), if_neg (by omega)]; rfl
        refine ⟨_, _, ⟨hd.a, hd.cap, rfl, rfl⟩, by rw [hv, ← hdn]; rfl, fun h s => ?_⟩
        rw [hv]
        exact rd_row hH hX (SubC.out h s)

theorem r_Place {L : List Asn} {a b : Option Addr} {n cap m cq : Nat} {rs : List Rg} {x : List Int} [SlIn rgE L a rs] [SlIn intE L b x] (hn : n = rs.length) (hm : m = x.length) :
    CallS Try.prog 103 [.agg #[.slice a n cap], .slice b m cq].toArray L (fun v M => v = .tuple #[.int .i64 (plV rs x).1, .int .i64 (plV rs x).2] ∧ M = L) := by
  subst hn
  subst hm
  refine CallS.ent ?_
  refine CallS.enter Try.func103 rfl rfl rfl rfl rfl ?_
  refine J.seq rfl ?_
  refine J.region rfl ?_
  refine JO.eff rfl rfl rfl (Eff.box (cs := [_]) rfl rfl) ?_
  rintro _ _ ⟨b2, rfl, rfl⟩
  refine JO.pur rfl rfl rfl (Pur.assign rfl) ?_
  refine JO.pur rfl rfl rfl (Pur.assign rfl) ?_
  refine JO.nil ?_
  refine J.seq rfl ?_
  refine J.region rfl ?_
  refine JO.pur rfl rfl rfl (Pur.loadA rfl rfl rfl CellsIn.blk) ?_
  refine JO.eff rfl rfl rfl (Eff.call rfl (r_Indexes (rs := rs) rfl)) ?_
  rintro _ _ ⟨a11, c11, hs, rfl, rfl⟩
  refine JO.pur rfl rfl rfl (Pur.move rfl) ?_
  refine JO.pur rfl rfl rfl (Pur.extract rfl rfl) ?_
  refine JO.pur rfl rfl rfl (Pur.extract rfl rfl) ?_
  refine JO.setv (u' := .int .i64 (erD rs)) 13 rfl rfl ?_
  refine JO.pur rfl rfl rfl (Pur.assign rfl) ?_
  refine JO.pur rfl rfl rfl (Pur.assign rfl) ?_
  refine JO.nil ?_
  refine J.seq rfl ?_
  refine J.block rfl ?_
  refine J.seq rfl ?_
  refine J.region rfl ?_
  refine JO.pur rfl rfl rfl (Pur.move rfl) ?_
  refine JO.pur rfl rfl rfl (Pur.neqI rfl rfl) ?_
  refine JO.pur rfl rfl rfl (Pur.assign rfl) ?_
  refine JO.nil ?_
  refine J.splitB 14 rfl (fun h14 => ?_) (fun h14 => ?_)
  · try simp only [decide_eq_true_eq, decide_eq_false_iff_not, Bool.not_eq_true', Bool.not_eq_false', Bool.and_eq_true, Bool.or_eq_true, Bool.and_eq_false_iff, Bool.or_eq_false_iff, Option.isNone_some, Option.isSome_some, Option.isNone_none, Option.isSome_none, Int.not_lt, Int.not_le, beq_iff_eq, beq_eq_false_iff_ne, bne_iff_ne, ne_eq, Bool.not_not, Decidable.not_not] at h14
    have hbad : ¬ okD rs := erD_ne.1 (by simpa using h14)
    refine J.condT rfl rfl ?_
    refine J.seq rfl ?_
    refine J.region rfl ?_
    refine JO.pur rfl rfl rfl (Pur.move rfl) ?_
    refine JO.pur rfl rfl rfl (Pur.assign rfl) ?_
    refine JO.pur rfl rfl rfl (Pur.assign rfl) ?_
    refine JO.nil ?_
    refine J.ret rfl rfl ?_
    have he : erD rs = 40 := by unfold erD; rw [if_neg hbad]
    refine ⟨_, _, ⟨rfl, rfl⟩, ?_, SubC.out⟩
    unfold plV; rw [if_pos hbad, he]; rfl
  · try simp only [decide_eq_true_eq, decide_eq_false_iff_not, Bool.not_eq_true', Bool.not_eq_false', Bool.and_eq_true, Bool.or_eq_true, Bool.and_eq_false_iff, Bool.or_eq_false_iff, Option.isNone_some, Option.isSome_some, Option.isNone_none, Option.isSome_none, Int.not_lt, Int.not_le, beq_iff_eq, beq_eq_false_iff_ne, bne_iff_ne, ne_eq, Bool.not_not, Decidable.not_not] at h14
    have hgood : okD rs := by
      by_cases g : okD rs
      · exact g
      · exact absurd (erD_ne.2 g) (by simpa using h14)
    have hv0 : ixsV rs = idx rs := by unfold ixsV; rw [if_pos hgood]
    have hil : (ixsV rs).length = cntD rs := by rw [hv0, idx_len]
    have hc4 := hgood.2.2.2
    have hl3 := hgood.2.1
    refine J.condF rfl rfl ?_
    refine J.seq rfl ?_
    refine J.region rfl ?_
    refine JO.pur rfl rfl rfl (Pur.move rfl) ?_
    refine JO.pur rfl rfl rfl (Pur.len rfl) ?_
    refine JO.pur rfl rfl rfl (Pur.fieldAddr rfl) ?_
    refine JO.pur rfl rfl rfl (Pur.load rfl (CellIn.blk rfl)) ?_
    refine JO.pur rfl rfl rfl (Pur.len rfl) ?_
    refine JO.pur rfl rfl rfl (Pur.neqI rfl rfl) ?_
    refine JO.pur rfl rfl rfl (Pur.assign rfl) ?_
    refine JO.nil ?_
    refine J.splitB 18 rfl (fun h18 => ?_) (fun h18 => ?_)
    · try simp only [decide_eq_true_eq, decide_eq_false_iff_not, Bool.not_eq_true', Bool.not_eq_false', Bool.and_eq_true, Bool.or_eq_true, Bool.and_eq_false_iff, Bool.or_eq_false_iff, Option.isNone_some, Option.isSome_some, Option.isNone_none, Option.isSome_none, Int.not_lt, Int.not_le, beq_iff_eq, beq_eq_false_iff_ne, bne_iff_ne, ne_eq, Bool.not_not, Decidable.not_not] at h18
      have hle : x.length ≠ rs.length := by omega
      refine J.condT rfl rfl ?_
      refine J.seq rfl ?_
      refine J.region rfl ?_
      refine JO.pur rfl rfl rfl (Pur.assign rfl) ?_
      refine JO.pur rfl rfl rfl (Pur.assign rfl) ?_
      refine JO.nil ?_
      refine J.ret rfl rfl ?_
      refine ⟨_, _, ⟨rfl, rfl⟩, ?_, SubC.out⟩
      unfold plV; rw [if_neg (not_not_intro hgood), if_pos hle]; rfl
    · try simp only [decide_eq_true_eq, decide_eq_false_iff_not, Bool.not_eq_true', Bool.not_eq_false', Bool.and_eq_true, Bool.or_eq_true, Bool.and_eq_false_iff, Bool.or_eq_false_iff, Option.isNone_some, Option.isSome_some, Option.isNone_none, Option.isSome_none, Int.not_lt, Int.not_le, beq_iff_eq, beq_eq_false_iff_ne, bne_iff_ne, ne_eq, Bool.not_not, Decidable.not_not] at h18
      have hle : x.length = rs.length := by omega
      refine J.fact (fun h s => RowsR.len (E := intE) (hs := hs) (xss := ixsV rs) s) fun hnn => ?_
      have hhl : hs.length = (ixsV rs).length := rows_len hnn
      refine J.condF rfl rfl ?_
      refine J.skip rfl ?_
      refine J.inBlock ?_
      refine J.seq rfl ?_
      refine J.seq rfl ?_
      refine J.region rfl ?_
      refine JO.pur rfl rfl rfl (Pur.assign rfl) ?_
      refine JO.nil ?_
      refine J.block rfl ?_
      refine J.loopF (ι := Nat) (fun q => q ≤ cntD rs ∧ ∀ j, j < q → (idx rs)[j]? ≠ some x) (fun q => [(8, .int .i64 (q : Int))]) [(1, _), (6, _)] (fun q => sl hE a11 c11 hs :: rows intE hs (ixsV rs) :: L) (fun q => cntD rs - q) 0 rfl (.cons rfl rfl (.cons rfl rfl .nil)) (.cons rfl rfl .nil) (by first | exact fun _ h => h | exact SubC.out | (dsimp only; exact SubC.out)) ⟨Nat.zero_le _, fun j hj => by omega⟩ ?_
      rintro k ⟨hk, hno⟩ ih0
      try dsimp only
      refine J.seq rfl ?_
      refine J.seq rfl ?_
      refine J.region rfl ?_
      refine JO.pur rfl rfl rfl (Pur.move rfl) ?_
      refine JO.pur rfl rfl rfl (Pur.move rfl) ?_
      refine JO.pur rfl rfl rfl (Pur.len rfl) ?_
      refine JO.pur rfl rfl rfl (Pur.lss rfl rfl) ?_
      refine JO.nil ?_
      refine J.splitB 28 rfl (fun h28 => ?_) (fun h28 => ?_)
      · try simp only [decide_eq_true_eq, decide_eq_false_iff_not, Bool.not_eq_true', Bool.not_eq_false', Bool.and_eq_true, Bool.or_eq_true, Bool.and_eq_false_iff, Bool.or_eq_false_iff, Option.isNone_some, Option.isSome_some, Option.isNone_none, Option.isSome_none, Int.not_lt, Int.not_le, beq_iff_eq, beq_eq_false_iff_ne, bne_iff_ne, ne_eq, Bool.not_not, Decidable.not_not] at h28
        have hkl : k < cntD rs := by omega
        obtain ⟨hd, hH⟩ : ∃ hd, hs[k]? = some hd := ⟨_, List.getElem?_eq_getElem (by omega)⟩
        have hX : (ixsV rs)[k]? = some (ixD rs k) := by rw [hv0]; exact ixD_get hkl
        have hdn := hdr_n hnn hH hX
        have hXl := ixD_len hkl
        refine J.condT rfl rfl ?_
        refine J.skip rfl ?_
        refine J.seq rfl ?_
        refine J.block rfl ?_
        refine J.seq rfl ?_
        refine J.region rfl ?_
        refine JO.pur rfl rfl rfl (Pur.move rfl) ?_
        refine JO.pur rfl rfl rfl (Pur.move rfl) ?_
        refine JO.pur rfl rfl rfl (Pur.idx rfl rfl rfl (by first | rfl | (simp; done) | omega) rfl (by omega)) ?_
        refine JO.pur rfl rfl rfl (Pur.load rfl (CellIn.el0 rfl hH rfl)) ?_
        refine JO.pur rfl rfl rfl (Pur.move rfl) ?_
        refine JO.effR rfl rfl rfl (Eff.call rfl (@same4_ok _ _ _ _ _ _ _ (ixD rs k) x (RowsR.row (E := intE) inferInstance hH hX) inferInstance hdn rfl (by omega))) ?_
        refine JO.nil ?_
        refine J.splitB 36 rfl (fun h36 => ?_) (fun h36 => ?_)
        · try simp only [decide_eq_true_eq, decide_eq_false_iff_not, Bool.not_eq_true', Bool.not_eq_false', Bool.and_eq_true, Bool.or_eq_true, Bool.and_eq_false_iff, Bool.or_eq_false_iff, Option.isNone_some, Option.isSome_some, Option.isNone_none, Option.isSome_none, Int.not_lt, Int.not_le, beq_iff_eq, beq_eq_false_iff_ne, bne_iff_ne, ne_eq, Bool.not_not, Decidable.not_not] at h36
          have hp : plD rs x = some k := (plD_iff hgood.2.2.1).2 (by rw [← hv0, hX, h36])
          refine J.condT rfl rfl ?_
          refine J.seq rfl ?_
          refine J.region rfl ?_
          refine JO.pur rfl rfl rfl (Pur.move rfl) ?_
          refine JO.pur rfl rfl rfl (Pur.assign rfl) ?_
          refine JO.pur rfl rfl rfl (Pur.assign rfl) ?_
          refine JO.nil ?_
          refine J.ret rfl rfl ?_
          refine ⟨_, _, ⟨rfl, rfl⟩, ?_, SubC.out⟩
          unfold plV; rw [if_neg (not_not_intro hgood), if_neg (not_not_intro hle), hp]; rfl
        · try simp only [decide_eq_true_eq, decide_eq_false_iff_not, Bool.not_eq_true', Bool.not_eq_false', Bool.and_eq_true, Bool.or_eq_true, Bool.and_eq_false_iff, Bool.or_eq_false_iff, Option.isNone_some, Option.isSome_some, Option.isNone_none, Option.isSome_none, Int.not_lt, Int.not_le, beq_iff_eq, beq_eq_false_iff_ne, bne_iff_ne, ne_eq, Bool.not_not, Decidable.not_not] at h36
          have hno2 : ∀ j, j < k + 1 → (idx rs)[j]? ≠ some x := fun j hj => by
            rcases Nat.lt_or_ge j k with h | h
            · exact hno j h
            · obtain rfl : j = k := by omega
              rw [← hv0, hX]; intro e; exact h36 (Option.some.inj e)
          refine J.condF rfl rfl ?_
          refine J.skip rfl ?_
          refine J.inBlock ?_
          refine J.region rfl ?_
          refine JO.pur rfl rfl rfl (Pur.move rfl) ?_
          refine JO.pur rfl rfl rfl (Pur.add rfl rfl (wr64 (by omega))) ?_
          refine JO.pur rfl rfl rfl (Pur.assign rfl) ?_
          refine JO.nil ?_
          exact J.weaken (.cons rfl (congrArg (Value.int .i64) (by first | rfl | (dsimp only; omega))) (.cons rfl rfl (.cons rfl rfl .nil))) (by first | exact fun _ h => h | exact SubC.out | (dsimp only; exact SubC.out)) (ih0 (k + 1) ⟨by omega, hno2⟩ (by omega))
      · try simp only [decide_eq_true_eq, decide_eq_false_iff_not, Bool.not_eq_true', Bool.not_eq_false', Bool.and_eq_true, Bool.or_eq_true, Bool.and_eq_false_iff, Bool.or_eq_false_iff, Option.isNone_some, Option.isSome_some, Option.isNone_none, Option.isSome_none, Int.not_lt, Int.not_le, beq_iff_eq, beq_eq_false_iff_ne, bne_iff_ne, ne_eq, Bool.not_not, Decidable.not_not] at h28
        have hp : plD rs x = none := by
          cases e : plD rs x with
          | none => rfl
          | some i => exact absurd ((plD_iff hgood.2.2.1).1 e) (hno i (by have := plD_lt hgood.2.2.1 e; omega))
        refine J.condF rfl rfl ?_
        refine J.exit rfl rfl ?_
        refine J.seq rfl ?_
        refine J.region rfl ?_
        refine JO.pur rfl rfl rfl (Pur.assign rfl) ?_
        refine JO.pur rfl rfl rfl (Pur.assign rfl) ?_
        refine JO.nil ?_
        refine J.ret rfl rfl ?_
        refine ⟨_, _, ⟨rfl, rfl⟩, ?_, SubC.out⟩
        unfold plV; rw [if_neg (not_not_intro hgood), if_neg (not_not_intro hle), hp]; rfl

end Go.Proofs.Ytnhippfllgnngaa

/- The text LPlain. -/
/-!
  Layouts, plain: the indexes of a domain in the order of a layout, and where one stands. No program in sight.
-/
set_option linter.unusedVariables false
set_option linter.unusedSimpArgs false
namespace Dm
def rowS : ByteArray := ⟨#[114, 111, 119, 115]⟩
def colS : ByteArray := ⟨#[99, 111, 108, 117, 109, 110, 115]⟩
def okL (s : ByteArray) : Prop := s = rowS ∨ s = colS
instance (s : ByteArray) : Decidable (okL s) := inferInstanceAs (Decidable (_ ∨ _))
def isC (s : ByteArray) : Bool := decide (s = colS)
/-- An index, turned as the layout turns it. -/
def ixL (c : Bool) (x : List Int) : List Int := if c = true then x.reverse else x
/-- A domain, turned. -/
def tuL (c : Bool) (rs : List Rg) : List Rg := if c = true then rs.reverse else rs
def ordL (c : Bool) (rs : List Rg) : List (List Int) := (idx (tuL c rs)).map (ixL c)
def offL (c : Bool) (rs : List Rg) (x : List Int) : Option Nat := plD (tuL c rs) (ixL c x)
/-- What a search through the list finds. -/
def findL (l : List (List Int)) (x : List Int) : Int := match l.findIdx? (fun y => decide (y = x)) with | some i => (i : Int) | none => -1
/-- The place, 0 where there is none. -/
def offZ (c : Bool) (rs : List Rg) (x : List Int) : Nat := (offL c rs x).getD 0
def offsL (c : Bool) (d part : List Rg) : List Int := (ordL c part).map fun x => ((offZ c d x : Nat) : Int)
/-- Runs. -/
def runStep (out : List (Int × Int)) (n : Int) : List (Int × Int) := match out.getLast? with
  | some p => if p.1 + p.2 = n then out.set (out.length - 1) (p.1, p.2 + 1) else out ++ [(n, 1)]
  | none => out ++ [(n, 1)]
def runsOf (l : List Int) : List (Int × Int) := l.foldl runStep []
end Dm

/- The text LPlain2. -/
/-!
  What is within what, plain.
-/
set_option linter.unusedVariables false
set_option linter.unusedSimpArgs false
namespace Dm
/-- All members of r are in s. -/
def wiR (r s : Rg) : Prop := ∀ i : Nat, i < cnt r → (plR s (atR r (i : Int))).isSome = true
theorem plK_some {d : List Rg} {x : List Int} : ∀ {k : Nat}, (plK d x k).isSome = true ↔ ∀ j, j < k → (plR (d.getD j default) (x.getD j default)).isSome = true
  | 0 => by simp [plK]
  | k + 1 => by
    have ih := plK_some (d := d) (x := x) (k := k)
    unfold plK
    constructor
    · intro h j hj
      cases e1 : plK d x k with
      | none => rw [e1] at h; simp at h
      | some a =>
        cases e2 : plR (d.getD k default) (x.getD k default) with
        | none => rw [e1, e2] at h; simp at h
        | some i =>
          rcases Nat.lt_or_ge j k with hjk | hjk
          · exact (ih.1 (by rw [e1]; rfl)) j hjk
          · rw [show j = k by omega, e2]; rfl
    · intro h
      have h1 := ih.2 fun j hj => h j (by omega)
      have h2 := h k (by omega)
      cases e1 : plK d x k with
      | none => rw [e1] at h1; cases h1
      | some a =>
        cases e2 : plR (d.getD k default) (x.getD k default) with
        | none => rw [e2] at h2; cases h2
        | some i => rfl
/-- All indexes of a are of b. -/
def wiD (a b : List Rg) : Prop := ∀ x ∈ idx a, x ∈ idx b
theorem getD_rev {α : Type} [Inhabited α] {l : List α} {j : Nat} (h : j < l.length) : l.reverse.getD j default = l.getD (l.length - 1 - j) default := by
  rw [List.getD_eq_getElem?_getD, List.getD_eq_getElem?_getD, List.getElem?_reverse h]
end Dm

/- The text SD1. -/
set_option linter.unusedVariables false
set_option linter.unusedSimpArgs false
set_option maxRecDepth 10000
namespace Go.Proofs.Ytnhippfllgnngaa
open Go Go.KK Dm

instance (r s : Rg) : Decidable (wiR r s) := inferInstanceAs (Decidable (∀ i, i < cnt r → _))
instance (a b : List Rg) : Decidable (wiD a b) := inferInstanceAs (Decidable (∀ x ∈ idx a, _))
/-- The error of two domains that must have one rank. -/
def twoV (a b : List Rg) : Int := if ¬ (okD a ∧ okD b) then 40 else if a.length ≠ b.length then 2 else 0
def witV (a b : List Rg) : Bool × Int := if twoV a b ≠ 0 then (false, twoV a b) else (decide (wiD a b), 0)
end Go.Proofs.Ytnhippfllgnngaa
