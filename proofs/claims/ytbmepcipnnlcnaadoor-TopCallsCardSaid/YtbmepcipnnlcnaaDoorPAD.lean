/-
  A part of the proof of the claim that this folder bears.
-/
import Derived.Test.YtbmepcipnnlcnaaDoorPAC
import Derived.Test.YtbmepcipnnlcnaaDoorKB
/- The text J4. -/
set_option linter.unusedVariables false
set_option linter.unusedSimpArgs false
set_option maxRecDepth 10000
namespace Go.Proofs.YtbmepcipnnlcnaaDoor
open Go Go.KK Sg

theorem name_word {s : ByteArray} (h : 0 < wordN (bl s)) : (true && decide ((if keyB (s.extract 0 (wordN (bl s))) then sKey else sName) = sName) && decide (s.extract 0 (wordN (bl s)) = s)) = nameB s := by
  have hle : wordN (bl s) ≤ s.size := by rw [← bl_len]; exact word_le _
  by_cases e : wordN (bl s) = s.size
  · have e2 : s.extract 0 (wordN (bl s)) = s := (ext_eq hle).2 e
    unfold nameB
    rw [e2, decide_eq_true (show 0 < wordN s.data.toList ∧ wordN s.data.toList = s.size from ⟨h, e⟩), decide_eq_true (rfl : s = s)]
    cases keyB s <;> rfl
  · have e2 : ¬ s.extract 0 (wordN (bl s)) = s := fun g => e ((ext_eq hle).1 g)
    unfold nameB
    rw [decide_eq_false e2, decide_eq_false (show ¬ (0 < wordN s.data.toList ∧ wordN s.data.toList = s.size) from fun g => e g.2)]
    simp
theorem name_no {s : ByteArray} (h : ¬ 0 < wordN (bl s)) : nameB s = false := by
  unfold nameB
  rw [decide_eq_false (fun g => h g.1)]; rfl
theorem first_ok {L : List Asn} [hT : Tab L] {s : ByteArray} (hs : s.size ≤ 9223372036854775807) :
    CallS Tryd.prog 29 [.string s].toArray L (fun v M => ∃ (K T : ByteArray) (ok : Bool), v = .tuple #[.agg #[.string K, .string T, .int .i64 0], .bool ok] ∧ (ok && decide (K = sName) && decide (T = s)) = nameB s ∧ M = L) := by
  refine CallS.ent ?_
  refine CallS.enter Tryd.func29 rfl rfl rfl rfl rfl ?_
  refine J.seq rfl ?_
  refine J.region rfl ?_
  refine JO.eff rfl rfl rfl (Eff.alloc (cs := [_, _, _]) rfl) ?_
  rintro _ _ ⟨b2, rfl, rfl⟩
  refine JO.pur rfl rfl rfl (Pur.assign rfl) ?_
  refine JO.nil ?_
  refine J.seq rfl ?_
  refine J.seq rfl ?_
  refine J.region rfl ?_
  refine JO.pur rfl rfl rfl (Pur.move rfl) ?_
  refine JO.effR rfl rfl rfl (Eff.call rfl (word_ok hs)) ?_
  refine JO.pur rfl rfl rfl (Pur.assign rfl) ?_
  refine JO.nil ?_
  refine J.seq rfl ?_
  refine J.region rfl ?_
  refine JO.pur rfl rfl rfl (Pur.move rfl) ?_
  refine JO.pur rfl rfl rfl (Pur.gtr rfl rfl) ?_
  refine JO.nil ?_
  refine J.splitB 11 rfl (fun h11 => ?_) (fun h11 => ?_)
  · try simp only [decide_eq_true_eq, decide_eq_false_iff_not, Bool.not_eq_true', Bool.not_eq_false', Bool.and_eq_true, Bool.or_eq_true, Bool.and_eq_false_iff, Bool.or_eq_false_iff, Option.isNone_some, Option.isSome_some, Option.isNone_none, Option.isSome_none, Int.not_lt, Int.not_le, beq_iff_eq, beq_eq_false_iff_ne, bne_iff_ne, ne_eq, Bool.not_not, Decidable.not_not] at h11
    refine J.condT rfl rfl ?_
    refine J.seq rfl ?_
    refine J.mask0 (n := 10) [8] rfl Tryd.mixed rfl (by kernel_rfl) ?_
    refine JM.take 0 (fun _ h => h) rfl (by kernel_rfl) rfl rfl rfl (m' := 1) rfl (Pur.move rfl) ?_
    refine JM.take 1 (fun _ h => h) rfl (by kernel_rfl) rfl rfl rfl (m' := 3) rfl (Pur.move rfl) ?_
    refine JM.take 2 (fun _ h => h) rfl (by kernel_rfl) rfl rfl rfl (m' := 7) rfl (Pur.sliceT0 rfl rfl rfl (by rw [← bl_len]; exact word_le _)) ?_
    refine JM.take 4 (fun _ h => h) rfl (by kernel_rfl) rfl rfl rfl (m' := 23) rfl (Pur.move rfl) ?_
    refine JM.take 5 (fun _ h => h) rfl (by kernel_rfl) rfl rfl rfl (m' := 55) rfl (Pur.move rfl) ?_
    refine JM.take 6 (fun _ h => h) rfl (by kernel_rfl) rfl rfl rfl (m' := 119) rfl (Pur.sliceT0 rfl rfl rfl (by rw [← bl_len]; exact word_le _)) ?_
    refine JM.one (i := 3) (by kernel_rfl) ?_
    refine JMi.effR (fun _ h => h) rfl rfl rfl rfl (m' := 127) rfl (Eff.call rfl (kind_ok (s := s.extract 0 (wordN (bl s))))) ?_
    refine JM.take 7 (fun _ h => h) rfl (by kernel_rfl) rfl rfl rfl (m' := 255) rfl (Pur.build (cs := [_, _, _]) rfl rfl) ?_
    refine JM.one (i := 8) (by kernel_rfl) ?_
    refine JMi.effN rfl rfl rfl (m' := 511) rfl (Eff.storeBA (cs' := [_, _, _]) rfl rfl (by rfl) (by rfl) (by rfl)) ?_
    rintro _ _ ⟨rfl, rfl⟩
    refine ⟨.inl (by simp), ?_⟩
    refine JM.takeF 9 (.inl (by kernel_rfl)) rfl (by kernel_rfl) rfl rfl rfl (m' := 1023) rfl (Pur.assign rfl) ?_
    refine JM.done rfl ?_
    refine J.retC rfl (.cell rfl (ld_agg rfl CellsIn.blk) (.tmp rfl .nil)) ?_
    first
    | exact ⟨_, _, ⟨_, _, true, rfl, name_word (by omega), rfl⟩, rfl, SubC.out⟩
    | exact ⟨_, _, ⟨_, _, _, rfl, (by rw [name_no (by omega)]; first | rfl | (cases ‹Bool› <;> rfl) | (rw [Bool.and_assoc]; exact Bool.and_false _) | simp [sName]), rfl⟩, rfl, SubC.out⟩
  · try simp only [decide_eq_true_eq, decide_eq_false_iff_not, Bool.not_eq_true', Bool.not_eq_false', Bool.and_eq_true, Bool.or_eq_true, Bool.and_eq_false_iff, Bool.or_eq_false_iff, Option.isNone_some, Option.isSome_some, Option.isNone_none, Option.isSome_none, Int.not_lt, Int.not_le, beq_iff_eq, beq_eq_false_iff_ne, bne_iff_ne, ne_eq, Bool.not_not, Decidable.not_not] at h11
    refine J.condF rfl rfl ?_
    refine J.skip rfl ?_
    refine J.seq rfl ?_
    refine J.seq rfl ?_
    refine J.region rfl ?_
    refine JO.pur rfl rfl rfl (Pur.move rfl) ?_
    refine JO.eff rfl rfl rfl (Eff.call rfl (digits_ok hs)) ?_
    rintro _ _ ⟨n, rfl, hn, rfl⟩
    refine JO.pur rfl rfl rfl (Pur.assign rfl) ?_
    refine JO.nil ?_
    refine J.seq rfl ?_
    refine J.region rfl ?_
    refine JO.pur rfl rfl rfl (Pur.move rfl) ?_
    refine JO.pur rfl rfl rfl (Pur.gtr rfl rfl) ?_
    refine JO.nil ?_
    refine J.splitB 23 rfl (fun h23 => ?_) (fun h23 => ?_)
    · try simp only [decide_eq_true_eq, decide_eq_false_iff_not, Bool.not_eq_true', Bool.not_eq_false', Bool.and_eq_true, Bool.or_eq_true, Bool.and_eq_false_iff, Bool.or_eq_false_iff, Option.isNone_some, Option.isSome_some, Option.isNone_none, Option.isSome_none, Int.not_lt, Int.not_le, beq_iff_eq, beq_eq_false_iff_ne, bne_iff_ne, ne_eq, Bool.not_not, Decidable.not_not] at h23
      refine J.condT rfl rfl ?_
      refine J.seq rfl ?_
      refine J.region rfl ?_
      refine JO.pur rfl rfl rfl (Pur.move rfl) ?_
      refine JO.pur rfl rfl rfl (Pur.move rfl) ?_
      refine JO.pur rfl rfl rfl (Pur.sliceT0 rfl rfl rfl hn) ?_
      refine JO.pur rfl rfl rfl (Pur.build (cs := [_, _, _]) rfl rfl) ?_
      refine JO.pur rfl rfl rfl (Pur.move rfl) ?_
      refine JO.pur rfl rfl rfl (Pur.leq rfl rfl) ?_
      refine JO.effN rfl rfl (Eff.storeBA (cs' := [_, _, _]) rfl rfl (by rfl) (by rfl) (by rfl)) ?_
      rintro _ _ ⟨rfl, rfl⟩
      refine JO.pur rfl rfl rfl (Pur.assign rfl) ?_
      refine JO.nil ?_
      refine J.retC rfl (.cell rfl (ld_agg rfl CellsIn.blk) (.tmp rfl .nil)) ?_
      first
      | exact ⟨_, _, ⟨_, _, true, rfl, name_word (by omega), rfl⟩, rfl, SubC.out⟩
      | exact ⟨_, _, ⟨_, _, _, rfl, (by rw [name_no (by omega)]; first | rfl | (cases ‹Bool› <;> rfl) | (rw [Bool.and_assoc]; exact Bool.and_false _) | simp [sName]), rfl⟩, rfl, SubC.out⟩
    · try simp only [decide_eq_true_eq, decide_eq_false_iff_not, Bool.not_eq_true', Bool.not_eq_false', Bool.and_eq_true, Bool.or_eq_true, Bool.and_eq_false_iff, Bool.or_eq_false_iff, Option.isNone_some, Option.isSome_some, Option.isNone_none, Option.isSome_none, Int.not_lt, Int.not_le, beq_iff_eq, beq_eq_false_iff_ne, bne_iff_ne, ne_eq, Bool.not_not, Decidable.not_not] at h23
      refine J.condF rfl rfl ?_
      refine J.skip rfl ?_
      refine J.seq rfl ?_
      refine J.seq rfl ?_
      refine J.region rfl ?_
      refine JO.eff rfl rfl rfl (Eff.call rfl (signs_ok)) ?_
      rintro _ _ ⟨b30, rfl, rfl⟩
      refine JO.pur rfl rfl rfl (Pur.len rfl) ?_
      refine JO.pur rfl rfl rfl (Pur.move rfl) ?_
      refine JO.nil ?_
      refine J.block rfl ?_
      refine J.loopF (ι := Nat) (fun q => q ≤ 23) (fun q => [(32, .int .i64 (q : Int))]) [(0, _), (2, _), (30, _), (31, _)] (fun q => blk b2 (.cells #[.string ByteArray.empty, .string ByteArray.empty, .int .i64 0] 58 (0, 0)) :: sl strE (some ⟨b30, 0, none⟩) 23 signL :: L) (fun q => 23 - q) 0 rfl (.cons rfl rfl (.cons rfl rfl (.cons rfl rfl (.cons rfl rfl .nil)))) (.cons rfl rfl .nil) (by first | exact fun _ h => h | exact SubC.out | (dsimp only; exact SubC.out)) (Nat.zero_le _) ?_
      rintro q hq ihq
      try dsimp only
      refine J.seq rfl ?_
      refine J.region rfl ?_
      refine JO.pur rfl rfl rfl (Pur.lss rfl rfl) ?_
      refine JO.nil ?_
      refine J.seq rfl ?_
      refine J.splitB 33 rfl (fun h33 => ?_) (fun h33 => ?_)
      · try simp only [decide_eq_true_eq, decide_eq_false_iff_not, Bool.not_eq_true', Bool.not_eq_false', Bool.and_eq_true, Bool.or_eq_true, Bool.and_eq_false_iff, Bool.or_eq_false_iff, Option.isNone_some, Option.isSome_some, Option.isNone_none, Option.isSome_none, Int.not_lt, Int.not_le, beq_iff_eq, beq_eq_false_iff_ne, bne_iff_ne, ne_eq, Bool.not_not, Decidable.not_not] at h33
        have hql : q < signL.length := (by omega : q < 23)
        obtain ⟨x, hX⟩ : ∃ x, signL[q]? = some x := ⟨_, List.getElem?_eq_getElem hql⟩
        refine J.condT rfl rfl ?_
        refine J.skip rfl ?_
        refine J.seq rfl ?_
        refine J.block rfl ?_
        refine J.seq rfl ?_
        refine J.region rfl ?_
        refine JO.pur rfl rfl rfl (Pur.idx rfl rfl rfl (by first | rfl | (simp; done) | omega) rfl hql) ?_
        refine JO.pur rfl rfl rfl (Pur.load rfl (CellIn.el0 rfl hX rfl)) ?_
        refine JO.setv (u' := .string x) 35 rfl rfl ?_
        refine JO.pur rfl rfl rfl (Pur.assign rfl) ?_
        refine JO.nil ?_
        refine J.seq rfl ?_
        refine J.region rfl ?_
        refine JO.pur rfl rfl rfl (Pur.move rfl) ?_
        refine JO.pur rfl rfl rfl (Pur.move rfl) ?_
        refine JO.effR rfl rfl rfl (Eff.call rfl (hasPrefix_ok s x)) ?_
        refine JO.nil ?_
        refine J.splitB 38 rfl (fun h38 => ?_) (fun h38 => ?_)
        · try simp only [decide_eq_true_eq, decide_eq_false_iff_not, Bool.not_eq_true', Bool.not_eq_false', Bool.and_eq_true, Bool.or_eq_true, Bool.and_eq_false_iff, Bool.or_eq_false_iff, Option.isNone_some, Option.isSome_some, Option.isNone_none, Option.isSome_none, Int.not_lt, Int.not_le, beq_iff_eq, beq_eq_false_iff_ne, bne_iff_ne, ne_eq, Bool.not_not, Decidable.not_not] at h38
          refine J.condT rfl rfl ?_
          refine J.seq rfl ?_
          refine J.region rfl ?_
          refine JO.pur rfl rfl rfl (Pur.move rfl) ?_
          refine JO.pur rfl rfl rfl (Pur.build (cs := [_, _, _]) rfl rfl) ?_
          refine JO.effN rfl rfl (Eff.storeBA (cs' := [_, _, _]) rfl rfl (by rfl) (by rfl) (by rfl)) ?_
          rintro _ _ ⟨rfl, rfl⟩
          refine JO.pur rfl rfl rfl (Pur.assign rfl) ?_
          refine JO.nil ?_
          refine J.retC rfl (.cell rfl (ld_agg rfl CellsIn.blk) (.tmp rfl .nil)) ?_
          first
          | exact ⟨_, _, ⟨_, _, true, rfl, name_word (by omega), rfl⟩, rfl, SubC.out⟩
          | exact ⟨_, _, ⟨_, _, _, rfl, (by rw [name_no (by omega)]; first | rfl | (cases ‹Bool› <;> rfl) | (rw [Bool.and_assoc]; exact Bool.and_false _) | simp [sName]), rfl⟩, rfl, SubC.out⟩
        · try simp only [decide_eq_true_eq, decide_eq_false_iff_not, Bool.not_eq_true', Bool.not_eq_false', Bool.and_eq_true, Bool.or_eq_true, Bool.and_eq_false_iff, Bool.or_eq_false_iff, Option.isNone_some, Option.isSome_some, Option.isNone_none, Option.isSome_none, Int.not_lt, Int.not_le, beq_iff_eq, beq_eq_false_iff_ne, bne_iff_ne, ne_eq, Bool.not_not, Decidable.not_not] at h38
          refine J.condF rfl rfl ?_
          refine J.skip rfl ?_
          refine J.inBlock ?_
          refine J.region rfl ?_
          refine JO.pur rfl rfl rfl (Pur.add rfl rfl (wr64 (by omega))) ?_
          refine JO.pur rfl rfl rfl (Pur.move rfl) ?_
          refine JO.nil ?_
          exact J.weaken (.cons rfl (congrArg (Value.int .i64) (by first | rfl | (dsimp only; omega))) (.cons rfl rfl (.cons rfl rfl (.cons rfl rfl (.cons rfl rfl .nil))))) (by first | exact fun _ h => h | exact SubC.out | (dsimp only; exact SubC.out)) (ihq (q + 1) (by omega) (by omega))
      · try simp only [decide_eq_true_eq, decide_eq_false_iff_not, Bool.not_eq_true', Bool.not_eq_false', Bool.and_eq_true, Bool.or_eq_true, Bool.and_eq_false_iff, Bool.or_eq_false_iff, Option.isNone_some, Option.isSome_some, Option.isNone_none, Option.isSome_none, Int.not_lt, Int.not_le, beq_iff_eq, beq_eq_false_iff_ne, bne_iff_ne, ne_eq, Bool.not_not, Decidable.not_not] at h33
        refine J.condF rfl rfl ?_
        refine J.exit rfl rfl ?_
        refine J.seq rfl ?_
        refine J.region rfl ?_
        refine JO.pur rfl rfl rfl (Pur.build (cs := [_, _, _]) rfl rfl) ?_
        refine JO.effN rfl rfl (Eff.storeBA (cs' := [_, _, _]) rfl rfl (by rfl) (by rfl) (by rfl)) ?_
        rintro _ _ ⟨rfl, rfl⟩
        refine JO.pur rfl rfl rfl (Pur.assign rfl) ?_
        refine JO.nil ?_
        refine J.retC rfl (.cell rfl (ld_agg rfl CellsIn.blk) (.tmp rfl .nil)) ?_
        first
        | exact ⟨_, _, ⟨_, _, true, rfl, name_word (by omega), rfl⟩, rfl, SubC.out⟩
        | exact ⟨_, _, ⟨_, _, _, rfl, (by rw [name_no (by omega)]; first | rfl | (cases ‹Bool› <;> rfl) | (rw [Bool.and_assoc]; exact Bool.and_false _) | simp [sName]), rfl⟩, rfl, SubC.out⟩

end Go.Proofs.YtbmepcipnnlcnaaDoor

/- The text JPlain3. -/
/-! Lists of signatures, step by step. -/
set_option linter.unusedVariables false
set_option linter.unusedSimpArgs false
namespace Sg
open Go.KK
def Okls (ls : List Sn) (xss : List (List Fm)) : Prop := ls.length = xss.length ∧ ∀ (i : Nat) (s : Sn) (fs : List Fm), ls[i]? = some s → xss[i]? = some fs → s.h.n = fs.length ∧ fs.length ≤ 9223372036854775807 ∧ s.nm.size ≤ 9223372036854775807
theorem Okls.get {ls : List Sn} {xss : List (List Fm)} (h : Okls ls xss) {i : Nat} (hi : i < ls.length) : ∃ (s : Sn) (fs : List Fm), ls[i]? = some s ∧ xss[i]? = some fs ∧ (ls.zip xss)[i]? = some (s, fs) ∧ s.h.n = fs.length ∧ fs.length ≤ 9223372036854775807 ∧ s.nm.size ≤ 9223372036854775807 := by
  have h1 : ls[i]? = some ls[i] := List.getElem?_eq_getElem hi
  have h2 : xss[i]? = some (xss[i]'(by have := h.1; omega)) := List.getElem?_eq_getElem _
  exact ⟨_, _, h1, h2, List.getElem?_zip_eq_some.2 ⟨h1, h2⟩, h.2 _ _ _ h1 h2⟩
theorem Okls.zlen {ls : List Sn} {xss : List (List Fm)} (h : Okls ls xss) : (ls.zip xss).length = ls.length := by have := h.1; simp; omega
theorem hd_get {ls : List Sn} {i : Nat} {s : Sn} (h : ls[i]? = some s) : (ls.map Sn.h)[i]? = some s.h := by rw [List.getElem?_map, h]; rfl
theorem take_get {α : Type} {l : List α} {k : Nat} {x : α} (h : l[k]? = some x) : l.take (k + 1) = l.take k ++ [x] := by
  obtain ⟨h1, h2⟩ := List.getElem?_eq_some_iff.1 h
  rw [← h2, List.take_append_getElem h1]
theorem all_step {α : Type} {p : α → Bool} {l : List α} {k : Nat} {x : α} (h : l[k]? = some x) (ha : (l.take k).all p = true) (hx : p x = true) : (l.take (k + 1)).all p = true := by rw [take_get h]; simp [List.all_append, ha, hx]
theorem all_end {α : Type} {p : α → Bool} {l : List α} {k : Nat} (h : l.length ≤ k) (ha : (l.take k).all p = true) : l.all p = true := by rwa [List.take_of_length_le h] at ha
theorem all_not {α : Type} {p : α → Bool} {l : List α} {k : Nat} {x : α} (h : l[k]? = some x) (hx : p x = false) : l.all p = false := by
  rw [List.all_eq_false]; exact ⟨x, List.mem_of_getElem? h, by simp [hx]⟩
theorem any_yes {α : Type} {p : α → Bool} {l : List α} {k : Nat} {x : α} (h : l[k]? = some x) (hx : p x = true) : l.any p = true := List.any_eq_true.2 ⟨x, List.mem_of_getElem? h, hx⟩
theorem any_no {α : Type} {p : α → Bool} {l : List α} (h : ∀ (j : Nat) x, j < l.length → l[j]? = some x → p x = false) : l.any p = false := by
  rw [List.any_eq_false]
  intro x hx
  obtain ⟨j, hj, e⟩ := List.getElem_of_mem hx
  have := h j x hj (by rw [List.getElem?_eq_getElem hj, e])
  simp [this]
theorem not_any {α : Type} {p : α → Bool} {l : List α} : (!(l.any fun x => !p x)) = l.all p := by
  induction l with
  | nil => rfl
  | cons x l ih => rw [List.any_cons, List.all_cons, Bool.not_or, ih, Bool.not_not]
theorem zip_get {α β : Type} {l : List α} {m : List β} {i : Nat} {x : α} {y : β} (h1 : l[i]? = some x) (h2 : m[i]? = some y) : (l.zip m)[i]? = some (x, y) := List.getElem?_zip_eq_some.2 ⟨h1, h2⟩
theorem way_get {fs ac : List Fm} {i : Nat} {f a : Fm} (h1 : fs[i]? = some f) (h2 : ac[i]? = some a) : (wayL fs ac)[i]? = some (fitW f a).1 := by
  unfold wayL; rw [List.getElem?_map, zip_get h1 h2]; rfl
theorem way_len {fs ac : List Fm} (h : ac.length = fs.length) : (wayL fs ac).length = ac.length := by simp [wayL, h]
theorem fits_len {fs ac : List Fm} (h : fitsB fs ac = true) : ac.length = fs.length := by
  unfold fitsB at h; simp only [Bool.and_eq_true, decide_eq_true_eq] at h; exact h.1
def wayR (fs ac : List Fm) : List Int := if fitsB fs ac then wayL fs ac else []
theorem wayR_len {fs ac : List Fm} : (wayR fs ac).length = if fitsB fs ac then ac.length else 0 := by
  unfold wayR
  by_cases h : fitsB fs ac = true
  · rw [if_pos h, if_pos h, way_len (fits_len h)]
  · rw [if_neg h, if_neg h]; rfl
theorem wayR_le {fs ac : List Fm} : (wayR fs ac).length ≤ ac.length := by rw [wayR_len]; split <;> omega
theorem fitsB_ne {fs ac : List Fm} (h : ¬ ac.length = fs.length) : fitsB fs ac = false := by unfold fitsB; rw [decide_eq_false h]; rfl
theorem fitsB_no {fs ac : List Fm} {i : Nat} {f a : Fm} (h1 : fs[i]? = some f) (h2 : ac[i]? = some a) (h : (fitW f a).2 = false) : fitsB fs ac = false := by
  unfold fitsB; rw [all_not (zip_get h1 h2) h]; simp
theorem fitsB_yes {fs ac : List Fm} {k : Nat} (h : ac.length = fs.length) (hk : fs.length ≤ k) (ha : (((fs.zip ac).take k).all fun p => (fitW p.1 p.2).2) = true) : fitsB fs ac = true := by
  unfold fitsB; rw [decide_eq_true h, all_end (by simp; omega) ha]; rfl
/-! Better ways. -/
theorem bet_no {v w : List Int} {i : Nat} {x y : Int} (h1 : v[i]? = some x) (h2 : w[i]? = some y) (h : y < x) : betB v w = false := by
  unfold betB; rw [all_not (zip_get h1 h2) (decide_eq_false (by dsimp only; omega))]; rfl
theorem bet_end {v w : List Int} {k : Nat} (hvw : v.length = w.length) (hk : v.length ≤ k) (ha : (((v.zip w).take k).all fun p => decide (p.1 ≤ p.2)) = true) : betB v w = ((v.zip w).take k).any fun p => decide (p.1 < p.2) := by
  have hl : (v.zip w).length ≤ k := by simp; omega
  unfold betB; rw [all_end hl ha, List.take_of_length_le hl]; rfl
theorem any_step {v w : List Int} {k : Nat} {x y : Int} (h1 : v[k]? = some x) (h2 : w[k]? = some y) : (((v.zip w).take (k + 1)).any fun p => decide (p.1 < p.2)) = ((((v.zip w).take k).any fun p => decide (p.1 < p.2)) || decide (x < y)) := by
  rw [take_get (zip_get h1 h2), List.any_append]; simp
/-! Candidates. -/
theorem cands_snoc (nm : ByteArray) (ac : List Fm) : ∀ (ps : List (Sn × List Fm)) (j : Nat) (p : Sn × List Fm), cands nm ac j (ps ++ [p]) = cands nm ac j ps ++ (if candB nm ac p then [j + ps.length] else [])
  | [], j, p => by simp [cands]
  | q :: ps, j, p => by
    rw [List.cons_append, cands, cands, cands_snoc nm ac ps (j + 1) p, List.length_cons]
    have e : j + 1 + ps.length = j + (ps.length + 1) := by omega
    rw [e]
    split <;> simp
theorem cands_step {nm : ByteArray} {ac : List Fm} {ps : List (Sn × List Fm)} {k : Nat} {p : Sn × List Fm} (h : ps[k]? = some p) :
    cands nm ac 0 (ps.take (k + 1)) = cands nm ac 0 (ps.take k) ++ (if candB nm ac p then [k] else []) := by
  have hk := (List.getElem?_eq_some_iff.1 h).1
  rw [take_get h, cands_snoc]
  have : (ps.take k).length = k := by rw [List.length_take]; omega
  rw [this, Nat.zero_add]
theorem cands_len (nm : ByteArray) (ac : List Fm) : ∀ (ps : List (Sn × List Fm)) (j : Nat), (cands nm ac j ps).length ≤ ps.length
  | [], j => by simp [cands]
  | q :: ps, j => by
    rw [cands]
    have := cands_len nm ac ps (j + 1)
    split <;> simp <;> omega
theorem cands_mem (nm : ByteArray) (ac : List Fm) : ∀ (ps : List (Sn × List Fm)) (j i : Nat), i ∈ cands nm ac j ps ↔ ∃ p, j ≤ i ∧ ps[i - j]? = some p ∧ candB nm ac p = true
  | [], j, i => by simp [cands]
  | q :: ps, j, i => by
    rw [cands]
    have ih := cands_mem nm ac ps (j + 1) i
    have tl : i ∈ cands nm ac (j + 1) ps ↔ ∃ p, j + 1 ≤ i ∧ (q :: ps)[i - j]? = some p ∧ candB nm ac p = true := by
      rw [ih]
      constructor
      · rintro ⟨p, h1, h2, h3⟩; exact ⟨p, h1, by rw [show i - j = (i - (j + 1)) + 1 by omega, List.getElem?_cons_succ]; exact h2, h3⟩
      · rintro ⟨p, h1, h2, h3⟩; exact ⟨p, h1, by rw [show i - j = (i - (j + 1)) + 1 by omega, List.getElem?_cons_succ] at h2; exact h2, h3⟩
    by_cases hq : candB nm ac q = true
    · rw [if_pos hq, List.mem_cons, tl]
      constructor
      · rintro (rfl | ⟨p, h1, h2, h3⟩)
        · exact ⟨q, Nat.le_refl _, by simp, hq⟩
        · exact ⟨p, by omega, h2, h3⟩
      · rintro ⟨p, h1, h2, h3⟩
        rcases Nat.eq_or_lt_of_le h1 with h | h
        · exact .inl h.symm
        · exact .inr ⟨p, h, h2, h3⟩
    · rw [if_neg hq, tl]
      constructor
      · rintro ⟨p, h1, h2, h3⟩; exact ⟨p, by omega, h2, h3⟩
      · rintro ⟨p, h1, h2, h3⟩
        rcases Nat.eq_or_lt_of_le h1 with h | h
        · subst h; simp at h2; subst h2; exact absurd h3 hq
        · exact ⟨p, h, h2, h3⟩
end Sg
