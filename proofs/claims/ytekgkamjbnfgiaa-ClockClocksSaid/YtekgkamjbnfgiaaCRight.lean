/-
  A part of the proof of the claim that this folder bears.
  This text: CRight.
-/
import Derived.Test.YtekgkamjbnfgiaaCTake
set_option linter.unusedVariables false
set_option linter.unusedSimpArgs false
namespace Go.Proofs.Ytekgkamjbnfgiaa
open Go Go.KK Ck

def TakeM (s : Seen) (e : Evt) (r g : Nat) (R M0 : List Asn) : Prop := (okE s e = true ∧ ∃ a' cap' gm', Rel gm' (after s e).given ∧ M0 = blk r (.cells #[.slice a' (after s e).joined.length cap', .map (some g)] 50 (0, 0)) :: sl boolE a' cap' (after s e).joined :: mp strK g gm' :: R) ∨ (okE s e = false ∧ M0 = R)
theorem take_at {R : List Asn} (r g : Nat) (a : Option Addr) (cap : Nat) (s : Seen) (e : Evt) (gm : List (ByteArray × Value)) (hg : Rel gm s.given) (hj : s.joined.length ≤ 3000) :
    CallS Try.prog 34 [.pointer (some ⟨r, 0, none⟩), .agg #[.int .i64 e.task, .string e.act, .int .i64 e.other, .string e.cell]].toArray (blk r (.cells #[.slice a s.joined.length cap, .map (some g)] 50 (0, 0)) :: sl boolE a cap s.joined :: mp strK g gm :: R) (fun v M => ∃ M0, v = .bool (okE s e) ∧ M = M0 ∧ TakeM s e r g R M0) :=
  (take_ok r g a cap s e gm hg hj).mono fun v M hq => by
    rcases hq with ⟨h1, h2, a', cap', gm', h3, h4⟩ | ⟨h1, h2, h3⟩
    · exact ⟨M, ⟨M, by rw [h2, h1], rfl, .inl ⟨h1, a', cap', gm', h3, h4⟩⟩, fun _ h => h⟩
    · exact ⟨M, ⟨M, by rw [h2, h1], rfl, .inr ⟨h1, h3⟩⟩, fun _ h => h⟩

theorem right1_ok {R : List Asn} (c r g : Nat) (a : Option Addr) (cap : Nat) (s : Seen) (e : Evt) (gm : List (ByteArray × Value)) (hg : Rel gm s.given) (hj : s.joined.length ≤ 3000) :
    CallS Try.prog 33 [.agg #[.int .i64 e.task, .string e.act, .int .i64 e.other, .string e.cell], .pointer (some ⟨c, 0, none⟩)].toArray (blk r (.cells #[.slice a s.joined.length cap, .map (some g)] 50 (0, 0)) :: sl boolE a cap s.joined :: mp strK g gm :: blk c (.cells #[.pointer (some ⟨r, 0, none⟩)] 46 (0, 0)) :: R) (fun v M => ∃ M0, v = .bool (!okE s e) ∧ M = M0 ∧ TakeM s e r g (blk c (.cells #[.pointer (some ⟨r, 0, none⟩)] 46 (0, 0)) :: R) M0) := by
  refine CallS.ent ?_
  refine CallS.enter Try.func33 rfl rfl rfl rfl rfl ?_
  refine J.seq rfl ?_
  refine J.region rfl ?_
  refine JO.eff rfl rfl rfl (Eff.box (cs := [_, _, _, _]) rfl rfl) ?_
  rintro _ _ ⟨b2, rfl, rfl⟩
  refine JO.pur rfl rfl rfl (Pur.assign rfl) ?_
  refine JO.nil ?_
  refine J.seq rfl ?_
  refine J.region rfl ?_
  refine JO.pur rfl rfl rfl (Pur.load rfl (CellIn.blk rfl)) ?_
  refine JO.pur rfl rfl rfl (Pur.loadA rfl rfl rfl CellsIn.blk) ?_
  refine JO.pull (.tail (.tail (.tail .head))) ?_
  refine JO.pull (.tail (.tail (.tail .head))) ?_
  refine JO.pull (.tail (.tail (.tail .head))) ?_
  refine JO.eff rfl rfl rfl (Eff.call rfl (take_at r g a cap s e gm hg hj)) ?_
  rintro _ _ ⟨M0, rfl, rfl, hM⟩
  refine JO.pur rfl rfl rfl (Pur.not rfl) ?_
  refine JO.pur rfl rfl rfl (Pur.assign rfl) ?_
  refine JO.nil ?_
  refine J.ret rfl rfl ?_
  rcases hM with ⟨h1, a', cap', gm', h3, h4⟩ | ⟨h1, h4⟩
  · subst h4; exact ⟨_, _, ⟨_, rfl, rfl, .inl ⟨h1, a', cap', gm', h3, rfl⟩⟩, rfl, fun h hs => (Sat.pull (.tail (.tail (.tail .head))) (Sat.pull (.tail (.tail (.tail .head))) (Sat.pull (.tail (.tail (.tail .head))) (Sat.pull (.tail (.tail (.tail .head))) (Sat.tail (Sat.pull (.tail (.tail (.tail .head))) hs))))))⟩
  · subst h4; exact ⟨_, _, ⟨_, rfl, rfl, .inr ⟨h1, rfl⟩⟩, rfl, fun h hs => hs.tail⟩

theorem seen_next {xs : List Evt} {i : Nat} (h : i < xs.length) : after (Ck.seen (xs.take i)) xs[i] = Ck.seen (xs.take (i + 1)) := by
  unfold Ck.seen; rw [List.take_succ_eq_append_getElem h, List.foldl_append]; rfl
theorem after_len (s : Seen) (e : Evt) : (after s e).joined.length ≤ s.joined.length + 1 := by
  unfold after; split
  · simp
  · split
    · simp
    · split <;> simp
theorem okUpto_next {xs : List Evt} {i : Nat} (h : i < xs.length) (h1 : okUpto xs i) (h2 : okE (Ck.seen (xs.take i)) xs[i] = true) : okUpto xs (i + 1) :=
  ⟨h1, fun e he => by rw [List.getElem?_eq_getElem h] at he; cases he; exact h2⟩
theorem okUpto_not {xs : List Evt} {i n : Nat} (h : i < xs.length) (hn : i < n) (h2 : okE (Ck.seen (xs.take i)) xs[i] = false) : ¬ okUpto xs n := by
  induction n with
  | zero => omega
  | succ n ih =>
    intro hh
    by_cases hi : i = n
    · subst hi
      have := hh.2 _ (List.getElem?_eq_getElem h)
      rw [h2] at this; cases this
    · exact ih (by omega) hh.1

theorem indexF_ok {R : List Asn} (c r g : Nat) (a : Option Addr) (cap : Nat) (gm : List (ByteArray × Value)) (hg : Rel gm Ck.start.given) {b : Option Addr} {n cp : Nat} {xs : List Evt} [SlIn evE R b xs] (hn : n = xs.length) (hb : xs.length ≤ 2000) :
    CallS Try.prog 45 [.slice b n cp, .func (.func 33) #[] #[.pointer (some ⟨c, 0, none⟩)]].toArray (blk r (.cells #[.slice a Ck.start.joined.length cap, .map (some g)] 50 (0, 0)) :: sl boolE a cap Ck.start.joined :: mp strK g gm :: blk c (.cells #[.pointer (some ⟨r, 0, none⟩)] 46 (0, 0)) :: R) (fun v M => ∃ k : Int, v = .int .i64 k ∧ (0 ≤ k ↔ ¬ okUpto xs xs.length) ∧ M = R) := by
  subst hn
  refine CallS.ent ?_
  refine CallS.enter Try.func45 rfl rfl rfl rfl rfl ?_
  refine J.seq rfl ?_
  refine J.region rfl ?_
  refine JO.pur rfl rfl rfl (Pur.assign rfl) ?_
  refine JO.nil ?_
  refine J.seq rfl ?_
  refine J.seq rfl ?_
  refine J.region rfl ?_
  refine JO.pur rfl rfl rfl (Pur.move rfl) ?_
  refine JO.pur rfl rfl rfl (Pur.len rfl) ?_
  refine JO.pur rfl rfl rfl (Pur.move rfl) ?_
  refine JO.nil ?_
  refine J.block rfl ?_
  refine J.loopF (ι := Nat × Option Addr × Nat × List (ByteArray × Value)) (fun i => i.1 ≤ xs.length ∧ okUpto xs i.1 ∧ Rel i.2.2.2 (Ck.seen (xs.take i.1)).given ∧ (Ck.seen (xs.take i.1)).joined.length ≤ i.1 + 1) (fun i => [(8, .int .i64 (i.1 : Int))]) [(0, _), (1, _), (7, _)] (fun i => blk r (.cells #[.slice i.2.1 (Ck.seen (xs.take i.1)).joined.length i.2.2.1, .map (some g)] 50 (0, 0)) :: sl boolE i.2.1 i.2.2.1 (Ck.seen (xs.take i.1)).joined :: mp strK g i.2.2.2 :: blk c (.cells #[.pointer (some ⟨r, 0, none⟩)] 46 (0, 0)) :: R) (fun i => xs.length - i.1) (0, a, cap, gm) rfl (.cons rfl rfl (.cons rfl rfl (.cons rfl rfl .nil))) (.cons rfl rfl .nil) (by first | exact fun _ h => h | exact SubC.out | (dsimp only; exact SubC.out)) ⟨Nat.zero_le _, trivial, hg, Nat.le_refl _⟩ ?_
  rintro ⟨i, a0, cap0, gm0⟩ ⟨hi, hok, hg0, hj0⟩ ih0
  try dsimp only
  dsimp only at hi hok hg0 hj0
  refine J.seq rfl ?_
  refine J.region rfl ?_
  refine JO.pur rfl rfl rfl (Pur.lss rfl rfl) ?_
  refine JO.nil ?_
  refine J.seq rfl ?_
  refine J.splitB 9 rfl (fun h9 => ?_) (fun h9 => ?_)
  · try simp only [decide_eq_true_eq, decide_eq_false_iff_not, Bool.not_eq_true', Bool.not_eq_false', Bool.and_eq_true, Bool.or_eq_true, Bool.and_eq_false_iff, Bool.or_eq_false_iff, Option.isNone_some, Option.isSome_some, Option.isNone_none, Option.isSome_none, Int.not_lt, Int.not_le, beq_iff_eq, beq_eq_false_iff_ne, bne_iff_ne, ne_eq, Bool.not_not, Decidable.not_not] at h9
    refine J.condT rfl rfl ?_
    refine J.skip rfl ?_
    refine J.seq rfl ?_
    refine J.block rfl ?_
    refine J.seq rfl ?_
    refine J.region rfl ?_
    refine JO.pur rfl rfl rfl (Pur.move rfl) ?_
    refine JO.pur rfl rfl rfl (Pur.assign rfl) ?_
    refine JO.nil ?_
    refine J.seq rfl ?_
    refine J.region rfl ?_
    refine JO.pur rfl rfl rfl (Pur.move rfl) ?_
    refine JO.pur rfl rfl rfl (Pur.move rfl) ?_
    refine JO.pur rfl rfl rfl (Pur.move rfl) ?_
    refine JO.pur rfl rfl rfl (Pur.idx rfl rfl rfl (by first | rfl | (simp; done) | omega) rfl (by omega)) ?_
    refine JO.pur rfl rfl rfl (Pur.loadA rfl rfl rfl (CellsIn.el rfl (List.getElem?_eq_getElem (by omega)))) ?_
    refine JO.eff rfl rfl rfl (Eff.callV rfl rfl (right1_ok c r g a0 cap0 (Ck.seen (xs.take i)) xs[i] gm0 hg0 (by omega))) ?_
    rintro _ _ ⟨M0, rfl, rfl, hM⟩
    refine JO.nil ?_
    refine J.splitB 16 rfl (fun h16 => ?_) (fun h16 => ?_)
    · try simp only [decide_eq_true_eq, decide_eq_false_iff_not, Bool.not_eq_true', Bool.not_eq_false', Bool.and_eq_true, Bool.or_eq_true, Bool.and_eq_false_iff, Bool.or_eq_false_iff, Option.isNone_some, Option.isSome_some, Option.isNone_none, Option.isSome_none, Int.not_lt, Int.not_le, beq_iff_eq, beq_eq_false_iff_ne, bne_iff_ne, ne_eq, Bool.not_not, Decidable.not_not] at h16
      refine J.condT rfl rfl ?_
      refine J.seq rfl ?_
      refine J.region rfl ?_
      refine JO.pur rfl rfl rfl (Pur.move rfl) ?_
      refine JO.pur rfl rfl rfl (Pur.assign rfl) ?_
      refine JO.nil ?_
      refine J.ret rfl rfl ?_
      rcases hM with ⟨hk, a1, c1, gm1, hg1, h4⟩ | ⟨hk, h4⟩
      · exfalso; rw [hk] at h16; simp at h16
      · subst h4; exact ⟨_, _, ⟨_, rfl, ⟨fun _ => okUpto_not (i := i) (by omega) (by omega) hk, fun _ => by omega⟩, rfl⟩, rfl, fun h hs => hs.tail⟩
    · try simp only [decide_eq_true_eq, decide_eq_false_iff_not, Bool.not_eq_true', Bool.not_eq_false', Bool.and_eq_true, Bool.or_eq_true, Bool.and_eq_false_iff, Bool.or_eq_false_iff, Option.isNone_some, Option.isSome_some, Option.isNone_none, Option.isSome_none, Int.not_lt, Int.not_le, beq_iff_eq, beq_eq_false_iff_ne, bne_iff_ne, ne_eq, Bool.not_not, Decidable.not_not] at h16
      refine J.condF rfl rfl ?_
      refine J.skip rfl ?_
      refine J.inBlock ?_
      refine J.region rfl ?_
      refine JO.pur rfl rfl rfl (Pur.add rfl rfl (wr64 (by omega))) ?_
      refine JO.pur rfl rfl rfl (Pur.move rfl) ?_
      refine JO.nil ?_
      have hk : okE (Ck.seen (xs.take i)) xs[i] = true := by simpa using h16
      obtain ⟨-, a1, c1, gm1, hg1, h4⟩ := hM.resolve_right (fun x => by rw [x.1] at hk; cases hk)
      subst h4
      exact J.weaken (.cons rfl (congrArg (Value.int .i64) (by dsimp only; omega)) (.cons rfl rfl (.cons rfl rfl (.cons rfl rfl .nil)))) (fun h hs => by dsimp only; rw [← seen_next (by omega)]; exact hs) (ih0 (i + 1, a1, c1, gm1) ⟨(by dsimp only; omega), okUpto_next (by omega) hok hk, (by dsimp only; rw [← seen_next (by omega)]; exact hg1), (by dsimp only; rw [← seen_next (by omega)]; have := after_len (Ck.seen (xs.take i)) xs[i]; omega)⟩ (by dsimp only; omega))
  · try simp only [decide_eq_true_eq, decide_eq_false_iff_not, Bool.not_eq_true', Bool.not_eq_false', Bool.and_eq_true, Bool.or_eq_true, Bool.and_eq_false_iff, Bool.or_eq_false_iff, Option.isNone_some, Option.isSome_some, Option.isNone_none, Option.isSome_none, Int.not_lt, Int.not_le, beq_iff_eq, beq_eq_false_iff_ne, bne_iff_ne, ne_eq, Bool.not_not, Decidable.not_not] at h9
    refine J.condF rfl rfl ?_
    refine J.exit rfl rfl ?_
    refine J.seq rfl ?_
    refine J.region rfl ?_
    refine JO.pur rfl rfl rfl (Pur.assign rfl) ?_
    refine JO.nil ?_
    refine J.ret rfl rfl ?_
    have hie : i = xs.length := by omega
    subst hie
    exact ⟨_, _, ⟨_, rfl, ⟨fun hh => by omega, fun hh => absurd hok hh⟩, rfl⟩, rfl, fun h hs => hs.tail.tail.tail.tail⟩

end Go.Proofs.Ytekgkamjbnfgiaa
