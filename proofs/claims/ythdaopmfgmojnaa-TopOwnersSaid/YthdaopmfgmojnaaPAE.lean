/-
  A part of the proof of the claim that this folder bears.
-/
import Derived.Test.YthdaopmfgmojnaaPAC
import Derived.Test.YthdaopmfgmojnaaKC
import Derived.Test.YthdaopmfgmojnaaPAD
/- The text OIter. -/
/-!
  slices.Backward over a list of bools, ranged over.
-/
set_option linter.unusedVariables false
set_option linter.unusedSimpArgs false
namespace Go.Proofs.Ythdaopmfgmojnaa
open Go Go.KK Ow
variable {xs : List Bool}
def iOf : Value → Int | .int _ q => q | _ => 0
theorem bk_get (xs : List Bool) {k : Nat} (h : k < xs.length) : xs[k]? = some (xs.getD k false) := by simp [List.getD_eq_getElem?_getD, h]
theorem backward_it {l bx cap n : Nat} {a : Option Addr} {xs : List Bool} {w0 : World} (A B : Asn) (H : Nat → List Asn) (G : Nat → Prop) (Kx : List Asn → Prop) (hn : n = xs.length)
    (hc : ∀ i, CellIn (H i) ⟨bx, 0, none⟩ (.slice a n cap)) (hsl : ∀ i, SlIn boolE (H i) a xs) (hb : xs.length ≤ 1000000)
    (hy : ∀ i, i < xs.length → G (i + 1) → ∀ w, Sat (hp w) (A :: B :: H (i + 1)) → env w = env w0 → YieldAt Fence.wide 0 Try.prog l #[.int .i64 (i : Int), .bool (xs.getD i false)] w (fun e w' => env w' = env w0 ∧ ((e = .returned (.bool true) ∧ G i ∧ Sat (hp w') (A :: B :: H i)) ∨ (e = .returned (.bool false) ∧ ∃ M, Kx M ∧ Sat (hp w') M)))) :
    ∀ w, G xs.length → Sat (hp w) (A :: B :: H xs.length) → env w = env w0 → CallsIn Fence.wide 0 Try.prog 69 (#[.func (.yield l) #[] #[]] ++ #[.pointer (some ⟨bx, 0, none⟩)]) w (fun e w' => (∃ v, e = .returned v) ∧ env w' = env w0 ∧ ((G 0 ∧ Sat (hp w') (A :: B :: H 0)) ∨ ∃ M, Kx M ∧ Sat (hp w') M)) := by
  intro w hg hs he
  subst hn
  have e0 : (#[Value.func (.yield l) #[] #[]] ++ #[Value.pointer (some ⟨bx, 0, none⟩)]) = [Value.func (.yield l) #[] #[], Value.pointer (some ⟨bx, 0, none⟩)].toArray := by simp
  rw [e0]
  have hcA : ∀ i, CellIn (A :: B :: H i) ⟨bx, 0, none⟩ (.slice a xs.length cap) := fun i h hh => hc i h hh.tail.tail
  have hslA : ∀ i, SlIn boolE (A :: B :: H i) a xs := fun i => have := hsl i; inferInstance
  refine CallsIn.mono (JR.calls (w0 := w0) (n := 19) (X := fun M => (G 0 ∧ M = A :: B :: H 0) ∨ Kx M) Try.func69 rfl rfl rfl rfl rfl ?_ hs he) ?_
  · refine JR.seq ?_
    refine JR.region rfl ?_
    refine RO.pur rfl rfl rfl rfl (Pur.load rfl (hcA _)) ?_
    refine RO.pur rfl rfl rfl rfl (Pur.len rfl) ?_
    refine RO.pur rfl rfl rfl rfl (Pur.sub rfl rfl (wr64 (by omega))) ?_
    refine RO.pur rfl rfl rfl rfl (Pur.assign rfl) ?_
    refine RO.nil ?_
    refine JR.block ?_
    refine JR.loop (ι := Nat) (fun i => i ≤ xs.length ∧ G i) (fun i => [(0, .func (.yield l) #[] #[]), (1, .pointer (some ⟨bx, 0, none⟩)), (3, .int .i64 ((i : Int) - 1))]) (fun i => A :: B :: H i) (fun i => i)
      (fun a => (iOf (a.tmps.getD 3 undef) + 1).toNat) (fun i a h => by rw [h.val 3 _ rfl]; show ((i : Int) - 1 + 1).toNat = i; omega) xs.length (.cons rfl rfl (.cons rfl rfl (.cons rfl rfl .nil))) (fun h s => s) ⟨Nat.le_refl _, hg⟩ ?_
    rintro i ⟨hi, hgi⟩
    refine JR.seq ?_
    refine JR.seq ?_
    refine JR.region rfl ?_
    refine RO.pur rfl rfl rfl rfl (Pur.move rfl) ?_
    refine RO.pur rfl rfl rfl rfl (Pur.geq rfl rfl) ?_
    refine RO.nil ?_
    refine JR.cond rfl (fun h8 => ?_) (fun h8 => ?_)
    · have h8' := of_decide_eq_true h8
      obtain ⟨k, rfl⟩ : ∃ k, i = k + 1 := ⟨i - 1, by omega⟩
      refine JR.skip ?_
      refine JR.seq ?_
      refine JR.block ?_
      refine JR.seq ?_
      refine JR.region rfl ?_
      refine RO.pur rfl rfl rfl rfl (Pur.move rfl) ?_
      refine RO.pur rfl rfl rfl rfl (Pur.move rfl) ?_
      refine RO.pur rfl rfl rfl rfl (Pur.load rfl (hcA _)) ?_
      refine RO.pur rfl rfl rfl rfl (Pur.move rfl) ?_
      have := hslA (k + 1)
      refine RO.pur rfl rfl rfl rfl (Pur.idx (k := k) (xs := xs) rfl rfl rfl rfl (by omega) (by omega)) ?_
      refine RO.pur rfl rfl rfl rfl (Pur.load rfl (CellIn.el0 rfl (bk_get xs (by omega)) rfl)) ?_
      refine RO.yield (Q := fun v M => (v = .bool true ∧ G k ∧ M = A :: B :: H k) ∨ (v = .bool false ∧ Kx M)) rfl rfl rfl rfl (fun w hs he => ?_) ?_
      · have h1 := hy k (by omega) hgi w hs he
        have e1 : (((k + 1 : Nat) : Int) - 1) = (k : Int) := by omega
        rw [e1]
        obtain ⟨fn, tmps, assign, body, h2, h3⟩ := h1
        refine ⟨fn, tmps, assign, body, h2, h3.mono ?_⟩
        rintro e w' ⟨he', ⟨e2, hgk, hs'⟩ | ⟨e2, M, hM, hs'⟩⟩
        · exact ⟨_, _, e2, .inl ⟨rfl, hgk, rfl⟩, hs', he'⟩
        · exact ⟨_, _, e2, .inr ⟨rfl, hM⟩, hs', he'⟩
      rintro _ M (⟨rfl, hgk, rfl⟩ | ⟨rfl, hK⟩)
      · refine RO.pur rfl rfl rfl rfl (Pur.not rfl) ?_
        refine RO.nil ?_
        refine JR.cond rfl (fun h => by cases h) (fun _ => ?_)
        refine JR.skip ?_
        refine JR.region rfl ?_
        refine RO.pur rfl rfl rfl rfl (Pur.move rfl) ?_
        refine RO.pur rfl rfl rfl rfl (Pur.sub rfl rfl (wr64 (by omega))) ?_
        refine RO.pur rfl rfl rfl rfl (Pur.assign rfl) ?_
        refine RO.nil ?_
        exact ⟨rfl, k, ⟨by omega, hgk⟩, by omega, .cons rfl rfl (.cons rfl rfl (.cons rfl (congrArg (Value.int .i64) (by omega)) .nil)), fun h s => s⟩
      · refine RO.pur rfl rfl rfl rfl (Pur.not rfl) ?_
        refine RO.nil ?_
        refine JR.cond rfl (fun _ => ?_) (fun h => by cases h)
        refine JR.ret ?_
        exact ⟨.inl rfl, rfl, .inr hK⟩
    · have h8' := of_decide_eq_false h8
      have hi0 : i = 0 := by omega
      subst hi0
      refine JR.exit ?_
      exact ⟨.inr rfl, rfl, .inl ⟨hgi, rfl⟩⟩
  · rintro e w' ⟨h1, h2, M, h3, h4⟩
    refine ⟨h1, h2, ?_⟩
    rcases h3 with ⟨h5, rfl⟩ | h5
    · exact .inl ⟨h5, h4⟩
    · exact .inr ⟨M, h5, h4⟩
end Go.Proofs.Ythdaopmfgmojnaa

/- The text ONext. -/
set_option linter.unusedVariables false
set_option linter.unusedSimpArgs false
namespace Go.Proofs.Ythdaopmfgmojnaa
open Go Go.KK Ow

def padT (c : List Bool) (m : Nat) : List Bool := c ++ List.replicate (m - c.length) true
def backF (xs : List Bool) : Nat → Option (List Bool)
  | 0 => none
  | i + 1 => if xs.getD i false = true then some (xs.take i ++ [false]) else backF xs i
def nxO (c : List Bool) (m : Nat) : Option (List Bool) := backF ((padT c m).take m) m
def nx (c : List Bool) (m : Nat) : List Bool := (nxO c m).getD []
def nb (c : List Bool) (m : Nat) : Bool := (nxO c m).isSome
theorem rep_snoc (c : List Bool) (k : Nat) : c ++ List.replicate k true ++ [true] = c ++ List.replicate (k + 1) true := by
  rw [List.append_assoc, ← List.replicate_succ']
theorem take_in {α : Type} {E : Enc α} {L : List Asn} {a : Option Addr} {xs : List α} {k : Nat} (h : SlIn E L a xs) : SlIn E L a (xs.take k) := ⟨fun hh s => by
  rcases h.out hh s with h1 | ⟨b, o, C, T, fz, h1, h2, h3⟩
  · exact .inl (by rw [h1, List.take_nil])
  · refine .inr ⟨b, o, C, T, fz, h1, h2, fun j v hv => h3 j v ?_⟩
    rw [← List.take_append_drop k xs, Enc.all_append, List.getElem?_append_left]
    · exact hv
    · exact (List.getElem?_eq_some_iff.1 hv).1⟩

theorem cloneB {L : List Asn} {a : Option Addr} {n cap : Nat} {xs : List Bool} [SlIn boolE L a xs] (hn : n = xs.length) (hb : xs.length ≤ 1000000) (hnil : a = none → n = 0 ∧ cap = 0) :
    CallS Try.prog 53 [.slice a n cap].toArray L (fun v M => ∃ a' cap', (v = .slice a' n cap' ∧ (a = none → a' = none)) ∧ M = sl boolE a' cap' xs :: L) := by
  subst hn
  refine CallS.ent ?_
  refine CallS.enter Try.func53 rfl rfl rfl rfl rfl ?_
  refine J.seq rfl ?_
  refine J.region rfl ?_
  refine JO.pur rfl rfl rfl (Pur.assign rfl) ?_
  refine JO.nil ?_
  refine J.seq rfl ?_
  refine J.seq rfl ?_
  refine J.region rfl ?_
  refine JO.pur rfl rfl rfl (Pur.move rfl) ?_
  refine JO.pur rfl rfl rfl (Pur.eqlSlNil rfl) ?_
  refine JO.nil ?_
  refine J.splitB 4 rfl (fun h4 => ?_) (fun h4 => ?_)
  · try simp only [decide_eq_true_eq, decide_eq_false_iff_not, Bool.not_eq_true', Bool.not_eq_false', Bool.and_eq_true, Bool.or_eq_true, Bool.and_eq_false_iff, Bool.or_eq_false_iff, Option.isNone_some, Option.isSome_some, Option.isNone_none, Option.isSome_none, Int.not_lt, Int.not_le, beq_iff_eq, beq_eq_false_iff_ne, bne_iff_ne, ne_eq, Bool.not_not, Decidable.not_not] at h4
    have ha : a = none := by cases a with | none => rfl | some p => simp at h4
    subst ha
    obtain ⟨e1, e2⟩ := hnil rfl
    have e3 : xs = [] := List.eq_nil_of_length_eq_zero (by omega)
    subst e2; subst e3
    refine J.condT rfl rfl ?_
    refine J.seq rfl ?_
    refine J.region rfl ?_
    refine JO.pur rfl rfl rfl (Pur.assign rfl) ?_
    refine JO.nil ?_
    refine J.ret rfl rfl ?_
    exact ⟨_, _, ⟨none, 0, ⟨rfl, fun _ => rfl⟩, rfl⟩, rfl, fun h hs => sl_nil_new hs⟩
  · try simp only [decide_eq_true_eq, decide_eq_false_iff_not, Bool.not_eq_true', Bool.not_eq_false', Bool.and_eq_true, Bool.or_eq_true, Bool.and_eq_false_iff, Bool.or_eq_false_iff, Option.isNone_some, Option.isSome_some, Option.isNone_none, Option.isSome_none, Int.not_lt, Int.not_le, beq_iff_eq, beq_eq_false_iff_ne, bne_iff_ne, ne_eq, Bool.not_not, Decidable.not_not] at h4
    refine J.condF rfl rfl ?_
    refine J.skip rfl ?_
    refine J.seq rfl ?_
    refine J.region rfl ?_
    refine JO.eff rfl rfl rfl (Eff.buildSlice boolE [] rfl rfl rfl rfl rfl rfl rfl) ?_
    rintro _ _ ⟨b5, rfl, -, rfl⟩
    refine JO.pur rfl rfl rfl (Pur.move rfl) ?_
    refine JO.eff rfl rfl rfl (Eff.append rfl rfl rfl rfl (by first | rfl | omega | (simp; done) | (simp; omega)) (by first | rfl | omega | (simp; done) | (simp; omega)) (by decide) (by simp; omega) (by simp; omega) hnil) ?_
    rintro _ _ ⟨a7, c7, rfl, rfl⟩
    refine JO.pur rfl rfl rfl (Pur.assign rfl) ?_
    refine JO.nil ?_
    refine J.ret rfl rfl ?_
    refine ⟨_, _, ⟨a7, c7, ⟨rfl, fun e => ?_⟩, rfl⟩, ?_, fun h hs => ?_⟩
    · rw [e] at h4; simp at h4
    · show Value.slice _ _ _ = Value.slice _ _ _
      simp
    · simpa using hs

theorem bwd_ok {L : List Asn} {a : Option Addr} {n cp : Nat} :
    CallS Try.prog 66 [.slice a n cp].toArray L (fun v M => ∃ bx, v = .func (.func 69) #[] #[.pointer (some ⟨bx, 0, none⟩)] ∧ M = blk bx (.cells #[.slice a n cp] 23) :: L) := by
  refine CallS.enter Try.func66 rfl rfl rfl rfl rfl ?_
  refine J.seq rfl ?_
  refine J.region rfl ?_
  refine JO.eff rfl rfl rfl (Eff.box (cs := [_]) rfl rfl) ?_
  rintro _ _ ⟨b1, rfl, rfl⟩
  refine JO.pur rfl rfl rfl (Pur.assign rfl) ?_
  refine JO.nil ?_
  refine J.seq rfl ?_
  refine J.region rfl ?_
  refine JO.pur rfl rfl rfl (Pur.makeFunc rfl rfl) ?_
  refine JO.pur rfl rfl rfl (Pur.assign rfl) ?_
  refine JO.nil ?_
  refine J.ret rfl rfl ?_
  exact ⟨b1, rfl, rfl⟩

set_option maxRecDepth 10000 in
theorem next_ok {L : List Asn} {a : Option Addr} {n cp m : Nat} {c : List Bool} (hn : n = c.length) (hb : c.length ≤ 1000) (hm : m ≤ 1000) :
    CallS Try.prog 57 [.slice a n cp, .int .i64 (m : Int)].toArray (sl boolE a cp c :: L) (fun v M => ∃ a' cp', v = .tuple #[.slice a' (nx c m).length cp', .bool (nb c m)] ∧ M = sl boolE a' cp' (nx c m) :: L) := by
  subst hn
  refine CallS.ent ?_
  refine CallS.enter Try.func57 rfl rfl rfl rfl rfl ?_
  refine J.seq rfl ?_
  refine J.region rfl ?_
  refine JO.eff rfl rfl rfl (Eff.box (cs := [_]) rfl rfl) ?_
  rintro _ _ ⟨b2, rfl, rfl⟩
  refine JO.eff rfl rfl rfl (Eff.alloc (cs := [_]) rfl) ?_
  rintro _ _ ⟨b4, rfl, rfl⟩
  refine JO.eff rfl rfl rfl (Eff.alloc (cs := [_]) rfl) ?_
  rintro _ _ ⟨b5, rfl, rfl⟩
  refine JO.nil ?_
  refine J.seq rfl ?_
  refine J.block rfl ?_
  refine J.loopF (ι := Option Addr × Nat × Nat) (fun q => q.2.2 ≤ m - c.length) (fun q => []) [(1, _), (2, _), (4, _), (5, _)] (fun q => blk b2 (.cells #[.slice q.1 (c.length + q.2.2) q.2.1] 23) :: blk b4 (.cells #[.slice none 0 0] 23) :: blk b5 (.cells #[.bool false] 4) :: sl boolE q.1 q.2.1 (c ++ List.replicate q.2.2 true) :: L) (fun q => m - c.length - q.2.2) (a, cp, 0) rfl (.cons rfl rfl (.cons rfl rfl (.cons rfl rfl (.cons rfl rfl .nil)))) .nil (fun h s => by dsimp only; rw [List.replicate_zero, List.append_nil]; exact SubC.out h s) (Nat.zero_le _) ?_
  rintro ⟨a3, c3, k⟩ hk ih0
  try dsimp only
  dsimp only at hk
  refine J.seq rfl ?_
  refine J.seq rfl ?_
  refine J.region rfl ?_
  refine JO.pur rfl rfl rfl (Pur.load rfl (CellIn.blk rfl)) ?_
  refine JO.pur rfl rfl rfl (Pur.len rfl) ?_
  refine JO.pur rfl rfl rfl (Pur.move rfl) ?_
  refine JO.pur rfl rfl rfl (Pur.lss rfl rfl) ?_
  refine JO.nil ?_
  refine J.splitB 11 rfl (fun h11 => ?_) (fun h11 => ?_)
  · try simp only [decide_eq_true_eq, decide_eq_false_iff_not, Bool.not_eq_true', Bool.not_eq_false', Bool.and_eq_true, Bool.or_eq_true, Bool.and_eq_false_iff, Bool.or_eq_false_iff, Option.isNone_some, Option.isSome_some, Option.isNone_none, Option.isSome_none, Int.not_lt, Int.not_le, beq_iff_eq, beq_eq_false_iff_ne, bne_iff_ne, ne_eq, Bool.not_not, Decidable.not_not] at h11
    refine J.condT rfl rfl ?_
    refine J.skip rfl ?_
    refine J.block rfl ?_
    refine J.region rfl ?_
    refine JO.pur rfl rfl rfl (Pur.load rfl (CellIn.blk rfl)) ?_
    refine JO.eff rfl rfl rfl (Eff.buildSlice boolE [true] rfl rfl rfl rfl rfl rfl rfl) ?_
    rintro _ _ ⟨b13, rfl, -, rfl⟩
    refine JO.eff rfl rfl rfl (Eff.append rfl rfl rfl rfl (by first | rfl | omega | (simp; done) | (simp; omega)) (by first | rfl | omega | (simp; done) | (simp; omega)) (by decide) (by first | omega | (simp only [List.length_cons, List.length_nil]; omega) | (simp; omega)) (by first | omega | (simp only [List.length_cons, List.length_nil]; omega) | (simp; omega)) (fun h => by cases h)) ?_
    rintro _ _ ⟨a14, c14, rfl, rfl⟩
    refine JO.effN rfl rfl (Eff.storeB rfl rfl rfl .head) ?_
    rintro _ _ ⟨rfl, rfl⟩
    refine JO.nil ?_
    refine J.inBlock ?_
    exact J.weaken (.cons rfl rfl (.cons rfl rfl (.cons rfl rfl (.cons rfl rfl .nil)))) (fun h s => by dsimp only; rw [← rep_snoc]; rw [show (c ++ List.replicate k true).length + [true].length = c.length + (k + 1) by simp; omega] at s; exact SubC.out h s) (ih0 (a14, c14, k + 1) (by dsimp only; omega) (by dsimp only; omega))
  · try simp only [decide_eq_true_eq, decide_eq_false_iff_not, Bool.not_eq_true', Bool.not_eq_false', Bool.and_eq_true, Bool.or_eq_true, Bool.and_eq_false_iff, Bool.or_eq_false_iff, Option.isNone_some, Option.isSome_some, Option.isNone_none, Option.isSome_none, Int.not_lt, Int.not_le, beq_iff_eq, beq_eq_false_iff_ne, bne_iff_ne, ne_eq, Bool.not_not, Decidable.not_not] at h11
    refine J.condF rfl rfl ?_
    refine J.exit rfl rfl ?_
    refine J.seq rfl ?_
    refine J.region rfl ?_
    refine JO.pur rfl rfl rfl (Pur.load rfl (CellIn.blk rfl)) ?_
    refine JO.pur rfl rfl rfl (Pur.move rfl) ?_
    refine JO.fact (fun h hs => SlH.le (a := a3) hs) fun hle3 => ?_
    have hlen3 : (c ++ List.replicate k true).length = c.length + k := by simp
    have hcap : m ≤ c3 := by omega
    refine JO.pur rfl rfl rfl (Pur.slice0 rfl rfl rfl (by omega)) ?_
    refine JO.effN rfl rfl (Eff.storeB rfl rfl rfl .head) ?_
    rintro _ _ ⟨rfl, rfl⟩
    refine JO.nil ?_
    refine J.seq rfl ?_
    refine J.seq rfl ?_
    refine J.region rfl ?_
    refine JO.pur rfl rfl rfl (Pur.load rfl (CellIn.blk rfl)) ?_
    refine JO.eff rfl rfl rfl (Eff.call rfl (bwd_ok)) ?_
    rintro _ _ ⟨bx, rfl, rfl⟩
    refine JO.nil ?_
    refine J.tail fun w0 => ?_
    obtain ⟨xs, hxs⟩ : ∃ xs, xs = (padT c m).take m := ⟨_, rfl⟩
    have hpad : c ++ List.replicate k true = padT c m := by unfold padT; rw [show k = m - c.length by omega]
    have hxl : xs.length = m := by rw [hxs, ← hpad]; simp; omega
    rw [hpad]
    refine JR.block ?_
    refine JR.rangeFunc2 (N := m) (G := fun i => nxO c m = backF xs i) (H := fun _ => blk bx (.cells #[.slice a3 m c3] 23) :: blk b2 (.cells #[.slice a3 m c3] 23) :: blk b4 (.cells #[.slice none 0 0] 23) :: blk b5 (.cells #[.bool false] 4) :: sl boolE a3 c3 xs :: L)
      (X := fun M => ∃ a' cp', nb c m = true ∧ M = blk b4 (.cells #[.slice a' (nx c m).length cp'] 23) :: blk b5 (.cells #[.bool true] 4) :: sl boolE a' cp' (nx c m) :: L) (v1 := fun i => .int .i64 (i : Int)) (v2 := fun i => .bool (xs.getD i false))
      (F1 := fun i => [(7, .bool (xs.getD i false)), (6, .int .i64 (i : Int)), (2, .pointer (some ⟨b2, 0, none⟩)), (4, .pointer (some ⟨b4, 0, none⟩)), (5, .pointer (some ⟨b5, 0, none⟩))])
      rfl rfl (enters_body _ _) rfl rfl (fun h s => by rw [hxs]; exact SubC.out h (cut_sl (a := a3) (cap := c3) (E := boolE) m s)) (by unfold nxO; rw [← hxs]) ?hit ?hassign ?hbody ?hdone ?hstop
    case hit =>
      intro l A B Kx hy w hg hs he
      have h1 := backward_it (l := l) (bx := bx) (cap := c3) (a := a3) (n := m) (xs := xs) (w0 := w0) A B (fun _ => blk bx (.cells #[.slice a3 m c3] 23) :: blk b2 (.cells #[.slice a3 m c3] 23) :: blk b4 (.cells #[.slice none 0 0] 23) :: blk b5 (.cells #[.bool false] 4) :: sl boolE a3 c3 xs :: L) (fun i => nxO c m = backF xs i) Kx hxl.symm (fun i => CellIn.blk rfl) (fun i => inferInstance) (by omega) (by rw [hxl]; exact hy) w (by rw [hxl]; exact hg) hs he
      exact h1
    case hassign =>
      intro l i M
      refine JR.seq ?_
      refine JR.region rfl ?_
      refine RO.pur rfl rfl rfl rfl (Pur.assign rfl) ?_
      refine RO.nil ?_
      refine JR.region rfl ?_
      refine RO.pur rfl rfl rfl rfl (Pur.assign rfl) ?_
      refine RO.nil ?_
      exact ⟨rfl, rfl, rfl, .cons rfl rfl (.cons rfl rfl (.cons rfl rfl (.cons rfl rfl (.cons rfl rfl .nil))))⟩
    case hbody =>
      intro l i A B hi hg
      refine JR.block ?_
      refine JR.seq ?_
      refine JR.region rfl ?_
      refine RO.pur rfl rfl rfl rfl (Pur.move rfl) ?_
      refine RO.nil ?_
      refine JR.cond rfl (fun h7 => ?_) (fun h7 => ?_)
      · have hle : m ≤ c3 := hcap
        have hb := hg
        unfold backF at hb
        rw [if_pos h7] at hb
        have hnx : nx c m = xs.take i ++ [false] := by unfold nx; rw [hb]; rfl
        have hnb : nb c m = true := by unfold nb; rw [hb]; rfl
        refine JR.fact (fun h s => SlIn.some (E := boolE) (a := a3) (xs := xs) inferInstance (by omega) h s) fun ⟨bb, oo, ha⟩ => ?_
        have hanil : a3 = none → i = 0 ∧ c3 = 0 := fun e => by rw [ha] at e; cases e
        have htl : (xs.take i).length = i := by rw [List.length_take]; omega
        refine JR.seq ?_
        refine JR.region rfl ?_
        refine RO.pur rfl rfl rfl rfl (Pur.load rfl (CellIn.blk rfl)) ?_
        refine RO.pur rfl rfl rfl rfl (Pur.move rfl) ?_
        refine RO.pur rfl rfl rfl rfl (Pur.slice0 rfl rfl rfl (by omega)) ?_
        refine RO.eff rfl rfl rfl rfl (Eff.call rfl (@cloneB _ _ _ _ (xs.take i) (take_in (by infer_instance)) (by omega) (by omega) hanil)) ?_
        rintro _ _ ⟨a26, c26, ⟨rfl, hn26⟩, rfl⟩
        refine RO.eff rfl rfl rfl rfl (Eff.buildSlice boolE [false] rfl rfl rfl rfl rfl rfl rfl) ?_
        rintro _ _ ⟨b27, rfl, -, rfl⟩
        refine RO.eff rfl rfl rfl rfl (Eff.append rfl rfl rfl rfl (by first | rfl | omega | (simp; done) | (simp; omega)) (by first | rfl | omega | (simp; done) | (simp; omega)) (by decide) (by first | omega | (simp only [List.length_cons, List.length_nil]; omega) | (simp; omega)) (by first | omega | (simp only [List.length_cons, List.length_nil]; omega) | (simp; omega)) (fun h => by cases h)) ?_
        rintro _ _ ⟨a28, c28, rfl, rfl⟩
        refine RO.effN rfl rfl rfl (Eff.storeB rfl rfl rfl .head) ?_
        rintro _ _ ⟨rfl, rfl⟩
        refine RO.effN rfl rfl rfl (Eff.storeB rfl rfl rfl .head) ?_
        rintro _ _ ⟨rfl, rfl⟩
        refine RO.nil ?_
        refine JR.ret ?_
        exact ⟨_, fun h s => by rw [hnx, List.length_append]; exact SubC.out h s, .inr ⟨rfl, a28, c28, hnb, rfl⟩⟩
      · refine JR.skip ?_
        have hb := hg
        unfold backF at hb
        rw [if_neg (by rw [h7]; exact Bool.false_ne_true)] at hb
        exact ⟨_, fun h s => s, .inl ⟨rfl, hb, rfl⟩⟩
    case hdone =>
      intro D A hg0
      have hnx : nx c m = [] := by unfold nx; rw [hg0]; rfl
      have hnb : nb c m = false := by unfold nb; rw [hg0]; rfl
      refine JR.seq ?_
      refine JR.region rfl ?_
      refine RO.effN rfl rfl rfl (Eff.storeB rfl rfl rfl .head) ?_
      rintro _ _ ⟨rfl, rfl⟩
      refine RO.effN rfl rfl rfl (Eff.storeB rfl rfl rfl .head) ?_
      rintro _ _ ⟨rfl, rfl⟩
      refine RO.nil ?_
      refine JR.ret ?_
      exact ⟨.inl rfl, D, A, _, _, rfl, rfl, (.cell rfl (ld_scl (CellIn.blk rfl)) (.cell rfl (ld_scl (CellIn.blk rfl)) .nil)), ⟨_, _, ⟨none, 0, by rw [hnx, hnb]; rfl, rfl⟩, rfl, fun h s => by rw [hnx]; exact SubC.out h (sl_nil_new (E := boolE) s)⟩⟩
    case hstop =>
      rintro D A M ⟨a', cp', hnb, rfl⟩
      exact ⟨.inl rfl, D, A, _, _, rfl, rfl, (.cell rfl (ld_scl (CellIn.blk rfl)) (.cell rfl (ld_scl (CellIn.blk rfl)) .nil)), ⟨_, _, ⟨a', cp', by rw [hnb]; rfl, rfl⟩, rfl, SubC.out⟩⟩

end Go.Proofs.Ythdaopmfgmojnaa

/- The text OState. -/
set_option linter.unusedVariables false
set_option linter.unusedSimpArgs false
namespace Go.Proofs.Ythdaopmfgmojnaa
open Go Go.KK Ow

def fz (l : List Nat) : List Int := l.map Int.ofNat
theorem fz_snoc (l : List Nat) (n : Nat) : fz l ++ [(n : Int)] = fz (l ++ [n]) := by simp [fz]
theorem fz_len (l : List Nat) : (fz l).length = l.length := by simp [fz]
theorem vi_lt {s : Str} (h : isVarB s = true) : vi s < 8 := by unfold isVarB at h; unfold vi; simp at h; omega
theorem isVar_b {s : Str} (h : isVarB s = true) : (s.size : Int) = 1 ∧ 97 ≤ byte0 s ∧ byte0 s ≤ 104 := by unfold isVarB at h; simp at h; omega
theorem at_ok {L : List Asn} {b : Nat} (s : Str) (hv : isVarB s = true) :
    CallS Try.prog 60 [.pointer (some ⟨b, 0, none⟩), .string s].toArray L (fun v M => v = .pointer (some ⟨b, vi s * 2, none⟩) ∧ M = L) := by
  obtain ⟨hs1, hs2, hs3⟩ := isVar_b hv
  obtain ⟨hb1, hb2⟩ := size1 hs1
  have hvi := vi_lt hv
  refine CallS.enter Try.func60 rfl rfl rfl rfl rfl ?_
  refine J.seq rfl ?_
  refine J.region rfl ?_
  refine JO.pur rfl rfl rfl (Pur.assign rfl) ?_
  refine JO.nil ?_
  refine J.seq rfl ?_
  refine J.mask0 (n := 8) [] rfl Try.mixed rfl (by kernel_rfl) ?_
  refine JM.take 0 (fun _ h => h) rfl (by kernel_rfl) rfl rfl rfl (m' := 1) rfl (Pur.move rfl) ?_
  refine JM.take 1 (fun _ h => h) rfl (by kernel_rfl) rfl rfl rfl (m' := 3) rfl (Pur.move rfl) ?_
  refine JM.take 2 (fun _ h => h) rfl (by kernel_rfl) rfl rfl rfl (m' := 7) rfl (Pur.indexT rfl rfl rfl hb1) ?_
  refine JM.take 3 (fun _ h => h) rfl (by kernel_rfl) rfl rfl rfl (m' := 15) rfl (Pur.sub (b := 97) rfl rfl (by rw [hb2]; exact wrU8 ⟨by omega, by omega⟩)) ?_
  refine JM.take 4 (fun _ h => h) rfl (by kernel_rfl) rfl rfl rfl (m' := 31) rfl (Pur.nilCheck rfl) ?_
  refine JM.take 5 (fun _ h => h) rfl (by kernel_rfl) rfl rfl rfl (m' := 63) rfl (Pur.fieldAddr rfl) ?_
  refine JM.take 6 (fun _ h => h) rfl (by kernel_rfl) rfl rfl rfl (m' := 127) rfl (Pur.idxA (k := vi s) rfl rfl (by rw [hb2]; unfold vi; omega) (by omega)) ?_
  refine JM.take 7 (fun _ h => h) rfl (by kernel_rfl) rfl rfl rfl (m' := 255) rfl (Pur.assign rfl) ?_
  refine JM.done rfl ?_
  refine J.ret rfl rfl ?_
  exact ⟨by show Value.pointer (some ⟨b, 0 + 0 + vi s * 2, none⟩) = _; simp, rfl⟩

theorem free_ok {L : List Asn} {b : Nat} {aa ac af : Option Addr} {ca cc cf : Nat} {vs : List Vr} {al : List Bool} {co : List Int} {fr : List Nat} {n : Nat} (hv8 : vs.length = 8) (ho : n < al.length) (hb : al.length ≤ 1000) (hf : fr.length ≤ 1000) :
    CallS Try.prog 62 [.pointer (some ⟨b, 0, none⟩), .int .i64 (n : Int)].toArray (blk b (arr vrE vs [.slice aa al.length ca, .slice ac co.length cc, .slice af (fz fr).length cf] 66) :: sl boolE aa ca al :: sl intE ac cc co :: sl intE af cf (fz fr) :: L) (fun v M => ∃ aa' ca' ac' cc' af' cf', v = .tuple #[] ∧ M = blk b (arr vrE vs [.slice aa' (al.set n false).length ca', .slice ac' co.length cc', .slice af' (fz (fr ++ [n])).length cf'] 66) :: sl boolE aa' ca' (al.set n false) :: sl intE ac' cc' co :: sl intE af' cf' (fz (fr ++ [n])) :: L) := by
  have hfl := fz_len fr
  refine CallS.ent ?_
  refine CallS.enter Try.func62 rfl rfl rfl rfl rfl ?_
  refine J.seq rfl ?_
  refine J.region rfl ?_
  refine JO.pur rfl rfl rfl (Pur.move rfl) ?_
  refine JO.pur rfl rfl rfl (Pur.nilCheck rfl) ?_
  refine JO.pur rfl rfl rfl (Pur.fieldAddr rfl) ?_
  refine JO.pur rfl rfl rfl (Pur.load rfl (CellIn.arrT (n := 16) (k := 0) (by rw [hv8]; rfl) rfl)) ?_
  refine JO.pur rfl rfl rfl (Pur.move rfl) ?_
  refine JO.pur rfl rfl rfl (Pur.idx rfl rfl rfl (by first | rfl | (simp; done) | omega) rfl (by omega)) ?_
  refine JO.effN rfl rfl (Eff.storeS0 (E := boolE) (z' := false) rfl rfl rfl rfl (getD_get (d := false) ho) .head) ?_
  rintro _ _ ⟨rfl, rfl⟩
  refine JO.nil ?_
  refine J.region rfl ?_
  refine JO.pur rfl rfl rfl (Pur.move rfl) ?_
  refine JO.pur rfl rfl rfl (Pur.move rfl) ?_
  refine JO.pur rfl rfl rfl (Pur.nilCheck rfl) ?_
  refine JO.pur rfl rfl rfl (Pur.fieldAddr rfl) ?_
  refine JO.pur rfl rfl rfl (Pur.load rfl (CellIn.arrT (n := 16) (k := 2) (by rw [hv8]; rfl) rfl)) ?_
  refine JO.pur rfl rfl rfl (Pur.move rfl) ?_
  refine JO.eff rfl rfl rfl (Eff.buildSlice intE [(n : Int)] rfl rfl rfl rfl rfl rfl rfl) ?_
  rintro _ _ ⟨b16, rfl, -, rfl⟩
  refine JO.eff rfl rfl rfl (Eff.append rfl rfl rfl rfl (by first | rfl | omega | (simp; done) | (simp; omega)) (by first | rfl | omega | (simp; done) | (simp; omega)) (by decide) (by first | omega | (simp only [List.length_cons, List.length_nil]; omega) | (simp; omega)) (by first | omega | (simp only [List.length_cons, List.length_nil]; omega) | (simp; omega)) (fun h => by cases h)) ?_
  rintro _ _ ⟨a17, c17, rfl, rfl⟩
  refine JO.pur rfl rfl rfl (Pur.nilCheck rfl) ?_
  refine JO.pur rfl rfl rfl (Pur.fieldAddr rfl) ?_
  refine JO.effN rfl rfl (Eff.storeArrT (n := 16) (k := 2) rfl rfl rfl (by rw [hv8]; rfl) (.tail (.tail .head))) ?_
  rintro _ _ ⟨rfl, rfl⟩
  refine JO.nil ?_
  refine J.fin rfl ?_
  refine ⟨_, _, ⟨aa, ca, ac, cc, a17, c17, rfl, rfl⟩, rfl, fun h s => ?_⟩
  rw [fz_snoc] at s
  simp only [← fz_snoc, List.length_append, List.length_set]
  rw [fz_snoc]
  exact SubC.out h s

theorem drop1 {σ : Sx} {i : Nat} (hm : (vr σ i).m = 1) : dropS σ i = ⟨σ.vars.set i ⟨0, 0⟩, σ.alive.set (vr σ i).o false, σ.count, σ.freed ++ [(vr σ i).o], σ.kind⟩ := by
  unfold dropS; simp [hm, putS, freeS]
theorem drop2 {σ : Sx} {i : Nat} (hm : (vr σ i).m = 2) (hc : σ.count.getD (vr σ i).o 0 - 1 = 0) : dropS σ i = ⟨σ.vars.set i ⟨0, 0⟩, σ.alive.set (vr σ i).o false, σ.count.set (vr σ i).o (σ.count.getD (vr σ i).o 0 - 1), σ.freed ++ [(vr σ i).o], σ.kind⟩ := by
  unfold dropS; dsimp only; rw [if_neg (by omega), if_pos hm, if_pos hc]; rfl
theorem drop3 {σ : Sx} {i : Nat} (hm : (vr σ i).m = 2) (hc : ¬ σ.count.getD (vr σ i).o 0 - 1 = 0) : dropS σ i = ⟨σ.vars.set i ⟨0, 0⟩, σ.alive, σ.count.set (vr σ i).o (σ.count.getD (vr σ i).o 0 - 1), σ.freed, σ.kind⟩ := by
  unfold dropS; dsimp only; rw [if_neg (by omega), if_pos hm, if_neg hc]; rfl
theorem drop0 {σ : Sx} {i : Nat} (h1 : ¬ (vr σ i).m = 1) (h2 : ¬ (vr σ i).m = 2) : dropS σ i = ⟨σ.vars.set i ⟨0, 0⟩, σ.alive, σ.count, σ.freed, σ.kind⟩ := by
  unfold dropS; dsimp only; rw [if_neg h1, if_neg h2]; rfl
theorem sharers_le {σ : Sx} (g : Ow.Good σ) (o : Nat) : sharers σ o ≤ 8 := by unfold sharers; rw [← g.v8]; exact List.countP_le_length
theorem nodup_le : ∀ (n : Nat) (l : List Nat), l.Nodup → (∀ x ∈ l, x < n) → l.length ≤ n
  | 0, l, _, h => by cases l with
    | nil => simp
    | cons x r => exact absurd (h x (by simp)) (by omega)
  | n + 1, l, hd, h => by
    by_cases hm : n ∈ l
    · have h1 := nodup_le n (l.erase n) (hd.erase n) (fun x hx => by
        have h2 := (List.Nodup.mem_erase_iff hd).1 hx
        have := h x h2.2
        omega)
      rw [List.length_erase_of_mem hm] at h1; omega
    · have h1 := nodup_le n l hd (fun x hx => by
        have := h x hx
        have : x ≠ n := fun e => hm (e ▸ hx)
        omega)
      omega
theorem freed_le {σ : Sx} (g : Ow.Good σ) : σ.freed.length ≤ σ.alive.length := by
  exact nodup_le _ _ g.fnd (fun x hx => ((g.fmem x).1 hx).2.1)

set_option maxRecDepth 10000 in
theorem drop_ok {L : List Asn} {b : Nat} {aa ac af : Option Addr} {ca cc cf : Nat} {σ : Sx} {i : Nat} (g : Ow.Good σ) (hi : i < 8) :
    CallS Try.prog 63 [.pointer (some ⟨b, 0, none⟩), .pointer (some ⟨b, i * 2, none⟩)].toArray (blk b (arr vrE σ.vars [.slice aa σ.alive.length ca, .slice ac σ.count.length cc, .slice af (fz σ.freed).length cf] 66) :: sl boolE aa ca σ.alive :: sl intE ac cc σ.count :: sl intE af cf (fz σ.freed) :: L) (fun v M => ∃ aa' ca' ac' cc' af' cf', v = .tuple #[] ∧ M = blk b (arr vrE (dropS σ i).vars [.slice aa' (dropS σ i).alive.length ca', .slice ac' (dropS σ i).count.length cc', .slice af' (fz (dropS σ i).freed).length cf'] 66) :: sl boolE aa' ca' (dropS σ i).alive :: sl intE ac' cc' (dropS σ i).count :: sl intE af' cf' (fz (dropS σ i).freed) :: L) := by
  have hv8 := g.v8
  have hl : i < σ.vars.length := by omega
  have hn21 := g.n21
  have hfl := freed_le g
  refine CallS.ent ?_
  refine CallS.enter Try.func63 rfl rfl rfl rfl rfl ?_
  refine J.seq rfl ?_
  refine J.seq rfl ?_
  refine J.region rfl ?_
  refine JO.pur rfl rfl rfl (Pur.move rfl) ?_
  refine JO.pur rfl rfl rfl (Pur.nilCheck rfl) ?_
  refine JO.pur rfl rfl rfl (Pur.fieldAddr rfl) ?_
  refine JO.pur rfl rfl rfl (Pur.load rfl (CellIn.arr (E := vrE) rfl (vr_get hl) rfl)) ?_
  refine JO.nil ?_
  refine J.block rfl ?_
  refine J.seq rfl ?_
  refine J.region rfl ?_
  refine JO.pur rfl rfl rfl (Pur.eqlI rfl rfl) ?_
  refine JO.pur rfl rfl rfl (Pur.assign rfl) ?_
  refine JO.nil ?_
  refine J.splitB 8 rfl (fun h8 => ?_) (fun h8 => ?_)
  · try simp only [decide_eq_true_eq, decide_eq_false_iff_not, Bool.not_eq_true', Bool.not_eq_false', Bool.and_eq_true, Bool.or_eq_true, Bool.and_eq_false_iff, Bool.or_eq_false_iff, Option.isNone_some, Option.isSome_some, Option.isNone_none, Option.isSome_none, Int.not_lt, Int.not_le, beq_iff_eq, beq_eq_false_iff_ne, bne_iff_ne, ne_eq, Bool.not_not, Decidable.not_not] at h8
    have hm : (vr σ i).m = 1 := by omega
    obtain ⟨ho1, ho2⟩ := g.obj i (by omega)
    refine J.condT rfl rfl ?_
    refine J.region rfl ?_
    refine JO.pur rfl rfl rfl (Pur.move rfl) ?_
    refine JO.pur rfl rfl rfl (Pur.move rfl) ?_
    refine JO.pur rfl rfl rfl (Pur.nilCheck rfl) ?_
    refine JO.pur rfl rfl rfl (Pur.fieldAddr rfl) ?_
    refine JO.pur rfl rfl rfl (Pur.load rfl (CellIn.arr (E := vrE) rfl (vr_get hl) rfl)) ?_
    refine JO.eff rfl rfl rfl (Eff.call rfl (free_ok (n := (vr σ i).o) hv8 ho2 (by omega) (by omega))) ?_
    rintro _ _ ⟨aa1, ca1, ac1, cc1, af1, cf1, rfl, rfl⟩
    refine JO.nil ?_
    refine J.inBlock ?_
    refine J.region rfl ?_
    refine JO.pur rfl rfl rfl (Pur.move rfl) ?_
    refine JO.pur rfl rfl rfl (Pur.build (cs := [_, _]) rfl rfl) ?_
    refine JO.pur rfl rfl rfl (Pur.nilCheck rfl) ?_
    refine JO.effN rfl rfl (Eff.storeArr (E := vrE) (z' := ⟨0, 0⟩) rfl rfl rfl rfl hl rfl) ?_
    rintro _ _ ⟨rfl, rfl⟩
    refine JO.nil ?_
    refine J.fin rfl ?_
    exact ⟨_, _, ⟨aa1, ca1, ac1, cc1, af1, cf1, rfl, rfl⟩, rfl, fun h s => by rw [drop1 hm]; dsimp only; exact SubC.out h s⟩
  · try simp only [decide_eq_true_eq, decide_eq_false_iff_not, Bool.not_eq_true', Bool.not_eq_false', Bool.and_eq_true, Bool.or_eq_true, Bool.and_eq_false_iff, Bool.or_eq_false_iff, Option.isNone_some, Option.isSome_some, Option.isNone_none, Option.isSome_none, Int.not_lt, Int.not_le, beq_iff_eq, beq_eq_false_iff_ne, bne_iff_ne, ne_eq, Bool.not_not, Decidable.not_not] at h8
    have h8' : ¬ (vr σ i).m = 1 := by omega
    refine J.condF rfl rfl ?_
    refine J.seq rfl ?_
    refine J.region rfl ?_
    refine JO.pur rfl rfl rfl (Pur.eqlI rfl rfl) ?_
    refine JO.pur rfl rfl rfl (Pur.assign rfl) ?_
    refine JO.nil ?_
    refine J.splitB 16 rfl (fun h16 => ?_) (fun h16 => ?_)
    · try simp only [decide_eq_true_eq, decide_eq_false_iff_not, Bool.not_eq_true', Bool.not_eq_false', Bool.and_eq_true, Bool.or_eq_true, Bool.and_eq_false_iff, Bool.or_eq_false_iff, Option.isNone_some, Option.isSome_some, Option.isNone_none, Option.isSome_none, Int.not_lt, Int.not_le, beq_iff_eq, beq_eq_false_iff_ne, bne_iff_ne, ne_eq, Bool.not_not, Decidable.not_not] at h16
      have hm : (vr σ i).m = 2 := by omega
      obtain ⟨ho1, ho2⟩ := g.obj i (by omega)
      have hoc : (vr σ i).o < σ.count.length := by rw [g.cl]; exact ho2
      have hcnt := g.cnt _ ho2 (g.shr i hm)
      have hsl := sharers_le g (vr σ i).o
      obtain ⟨n1, hn1⟩ : ∃ n1, n1 = σ.count.getD (vr σ i).o 0 - 1 := ⟨_, rfl⟩
      have ho2c : ((vr σ i).o : Int) < (σ.count.length : Nat) := by omega
      refine J.condT rfl rfl ?_
      refine J.seq rfl ?_
      refine J.mask0 (n := 13) [12] rfl Try.mixed rfl (by kernel_rfl) ?_
      refine JM.take 0 (fun _ h => h) rfl (by kernel_rfl) rfl rfl rfl (m' := 1) rfl (Pur.move rfl) ?_
      refine JM.take 1 (fun _ h => h) rfl (by kernel_rfl) rfl rfl rfl (m' := 3) rfl (Pur.nilCheck rfl) ?_
      refine JM.take 2 (fun _ h => h) rfl (by kernel_rfl) rfl rfl rfl (m' := 7) rfl (Pur.fieldAddr rfl) ?_
      refine JM.take 3 (fun _ h => h) rfl (by kernel_rfl) rfl rfl rfl (m' := 15) rfl (Pur.load rfl (CellIn.arrT (n := 16) (k := 1) (by rw [hv8]; rfl) rfl)) ?_
      refine JM.take 4 (fun _ h => h) rfl (by kernel_rfl) rfl rfl rfl (m' := 31) rfl (Pur.move rfl) ?_
      refine JM.take 5 (fun _ h => h) rfl (by kernel_rfl) rfl rfl rfl (m' := 63) rfl (Pur.nilCheck rfl) ?_
      refine JM.take 6 (fun _ h => h) rfl (by kernel_rfl) rfl rfl rfl (m' := 127) rfl (Pur.fieldAddr rfl) ?_
      refine JM.take 7 (fun _ h => h) rfl (by kernel_rfl) rfl rfl rfl (m' := 255) rfl (Pur.load rfl (CellIn.arr (E := vrE) rfl (vr_get hl) rfl)) ?_
      refine JM.take 8 (fun _ h => h) rfl (by kernel_rfl) rfl rfl rfl (m' := 511) rfl (Pur.idx rfl rfl rfl (by first | rfl | (simp; done) | omega) rfl hoc) ?_
      refine JM.take 9 (fun _ h => h) rfl (by kernel_rfl) rfl rfl rfl (m' := 1023) rfl (Pur.load rfl (CellIn.el0 rfl (getD_get (d := 0) hoc) rfl)) ?_
      refine JM.take 10 (fun _ h => h) rfl (by kernel_rfl) rfl rfl rfl (m' := 2047) rfl (Pur.sub rfl rfl (wr64 (by omega))) ?_
      refine JM.take 11 (fun _ h => h) rfl (by kernel_rfl) rfl rfl rfl (m' := 4095) rfl (Pur.idx rfl rfl rfl (by first | rfl | (simp; done) | omega) rfl hoc) ?_
      refine JM.one (i := 12) (by kernel_rfl) ?_
      refine JMi.effN rfl rfl rfl (m' := 8191) rfl (Eff.storeS0 (E := intE) (z' := _) rfl rfl rfl rfl (getD_get (d := 0) hoc) .head) ?_
      rintro _ _ ⟨rfl, rfl⟩
      refine ⟨.inl (by simp), ?_⟩
      refine JM.done rfl ?_
      refine J.seq rfl ?_
      refine J.mask0 (n := 11) [] rfl Try.mixed rfl (by kernel_rfl) ?_
      refine JM.take 0 (fun _ h => h) rfl (by kernel_rfl) rfl rfl rfl (m' := 1) rfl (Pur.move rfl) ?_
      refine JM.take 1 (fun _ h => h) rfl (by kernel_rfl) rfl rfl rfl (m' := 3) rfl (Pur.nilCheck rfl) ?_
      refine JM.take 2 (fun _ h => h) rfl (by kernel_rfl) rfl rfl rfl (m' := 7) rfl (Pur.fieldAddr rfl) ?_
      refine JM.take 3 (fun _ h => h) rfl (by kernel_rfl) rfl rfl rfl (m' := 15) rfl (Pur.load rfl (CellIn.arrT (n := 16) (k := 1) (by rw [hv8]; rfl) rfl)) ?_
      refine JM.take 4 (fun _ h => h) rfl (by kernel_rfl) rfl rfl rfl (m' := 31) rfl (Pur.move rfl) ?_
      refine JM.take 5 (fun _ h => h) rfl (by kernel_rfl) rfl rfl rfl (m' := 63) rfl (Pur.nilCheck rfl) ?_
      refine JM.take 6 (fun _ h => h) rfl (by kernel_rfl) rfl rfl rfl (m' := 127) rfl (Pur.fieldAddr rfl) ?_
      refine JM.take 7 (fun _ h => h) rfl (by kernel_rfl) rfl rfl rfl (m' := 255) rfl (Pur.load rfl (CellIn.arr (E := vrE) rfl (vr_get hl) rfl)) ?_
      refine JM.take 8 (fun _ h => h) rfl (by kernel_rfl) rfl rfl rfl (m' := 511) rfl (Pur.idx rfl rfl rfl (by first | rfl | (simp; done) | omega) rfl (by rw [List.length_set]; exact hoc)) ?_
      refine JM.take 9 (fun _ h => h) rfl (by kernel_rfl) rfl rfl rfl (m' := 1023) rfl (Pur.load rfl (CellIn.el0 rfl (List.getElem?_set_self hoc) rfl)) ?_
      refine JM.take 10 (fun _ h => h) rfl (by kernel_rfl) rfl rfl rfl (m' := 2047) rfl (Pur.eqlI rfl rfl) ?_
      refine JM.done rfl ?_
      refine J.splitB 40 rfl (fun h40 => ?_) (fun h40 => ?_)
      · try simp only [decide_eq_true_eq, decide_eq_false_iff_not, Bool.not_eq_true', Bool.not_eq_false', Bool.and_eq_true, Bool.or_eq_true, Bool.and_eq_false_iff, Bool.or_eq_false_iff, Option.isNone_some, Option.isSome_some, Option.isNone_none, Option.isSome_none, Int.not_lt, Int.not_le, beq_iff_eq, beq_eq_false_iff_ne, bne_iff_ne, ne_eq, Bool.not_not, Decidable.not_not] at h40
        refine J.condT rfl rfl ?_
        refine J.region rfl ?_
        refine JO.pur rfl rfl rfl (Pur.move rfl) ?_
        refine JO.pur rfl rfl rfl (Pur.move rfl) ?_
        refine JO.pur rfl rfl rfl (Pur.nilCheck rfl) ?_
        refine JO.pur rfl rfl rfl (Pur.fieldAddr rfl) ?_
        refine JO.pur rfl rfl rfl (Pur.load rfl (CellIn.arr (E := vrE) rfl (vr_get hl) rfl)) ?_
        refine JO.eff rfl rfl rfl (Eff.call rfl (CallS.pre (free_ok (vs := σ.vars) (al := σ.alive) (fr := σ.freed) (co := σ.count.set (vr σ i).o (σ.count.getD (vr σ i).o 0 - 1)) (n := (vr σ i).o) hv8 ho2 (by omega) (by omega)) (fun h s => by rw [List.length_set]; exact s))) ?_
        rintro _ _ ⟨aa1, ca1, ac1, cc1, af1, cf1, rfl, rfl⟩
        refine JO.nil ?_
        refine J.inBlock ?_
        refine J.region rfl ?_
        refine JO.pur rfl rfl rfl (Pur.move rfl) ?_
        refine JO.pur rfl rfl rfl (Pur.build (cs := [_, _]) rfl rfl) ?_
        refine JO.pur rfl rfl rfl (Pur.nilCheck rfl) ?_
        refine JO.effN rfl rfl (Eff.storeArr (E := vrE) (z' := ⟨0, 0⟩) rfl rfl rfl rfl hl rfl) ?_
        rintro _ _ ⟨rfl, rfl⟩
        refine JO.nil ?_
        refine J.fin rfl ?_
        exact ⟨_, _, ⟨aa1, ca1, ac1, cc1, af1, cf1, rfl, rfl⟩, rfl, fun h s => by rw [drop2 hm h40]; dsimp only; exact SubC.out h s⟩
      · try simp only [decide_eq_true_eq, decide_eq_false_iff_not, Bool.not_eq_true', Bool.not_eq_false', Bool.and_eq_true, Bool.or_eq_true, Bool.and_eq_false_iff, Bool.or_eq_false_iff, Option.isNone_some, Option.isSome_some, Option.isNone_none, Option.isSome_none, Int.not_lt, Int.not_le, beq_iff_eq, beq_eq_false_iff_ne, bne_iff_ne, ne_eq, Bool.not_not, Decidable.not_not] at h40
        refine J.condF rfl rfl ?_
        refine J.skip rfl ?_
        refine J.inBlock ?_
        refine J.region rfl ?_
        refine JO.pur rfl rfl rfl (Pur.move rfl) ?_
        refine JO.pur rfl rfl rfl (Pur.build (cs := [_, _]) rfl rfl) ?_
        refine JO.pur rfl rfl rfl (Pur.nilCheck rfl) ?_
        refine JO.effN rfl rfl (Eff.storeArr (E := vrE) (z' := ⟨0, 0⟩) rfl rfl rfl rfl hl rfl) ?_
        rintro _ _ ⟨rfl, rfl⟩
        refine JO.nil ?_
        refine J.fin rfl ?_
        exact ⟨_, _, ⟨aa, ca, ac, cc, af, cf, rfl, rfl⟩, rfl, fun h s => by rw [drop3 hm h40, List.length_set]; dsimp only; exact SubC.out h s⟩
    · try simp only [decide_eq_true_eq, decide_eq_false_iff_not, Bool.not_eq_true', Bool.not_eq_false', Bool.and_eq_true, Bool.or_eq_true, Bool.and_eq_false_iff, Bool.or_eq_false_iff, Option.isNone_some, Option.isSome_some, Option.isNone_none, Option.isSome_none, Int.not_lt, Int.not_le, beq_iff_eq, beq_eq_false_iff_ne, bne_iff_ne, ne_eq, Bool.not_not, Decidable.not_not] at h16
      have h16' : ¬ (vr σ i).m = 2 := by omega
      refine J.condF rfl rfl ?_
      refine J.skip rfl ?_
      refine J.inBlock ?_
      refine J.region rfl ?_
      refine JO.pur rfl rfl rfl (Pur.move rfl) ?_
      refine JO.pur rfl rfl rfl (Pur.build (cs := [_, _]) rfl rfl) ?_
      refine JO.pur rfl rfl rfl (Pur.nilCheck rfl) ?_
      refine JO.effN rfl rfl (Eff.storeArr (E := vrE) (z' := ⟨0, 0⟩) rfl rfl rfl rfl hl rfl) ?_
      rintro _ _ ⟨rfl, rfl⟩
      refine JO.nil ?_
      refine J.fin rfl ?_
      exact ⟨_, _, ⟨aa, ca, ac, cc, af, cf, rfl, rfl⟩, rfl, fun h s => by rw [drop0 h8' h16']; dsimp only; exact SubC.out h s⟩

end Go.Proofs.Ythdaopmfgmojnaa

/- The text OState2. -/
set_option linter.unusedVariables false
set_option linter.unusedSimpArgs false
namespace Go.Proofs.Ythdaopmfgmojnaa
open Go Go.KK Ow

def dropK (σ : Sx) : Nat → Sx
  | 0 => σ
  | k + 1 => dropS (dropK σ k) k
theorem good_dropK {σ : Sx} (g : Ow.Good σ) : ∀ {k : Nat}, k ≤ 8 → Ow.Good (dropK σ k)
  | 0, _ => g
  | k + 1, h => good_drop (good_dropK g (by omega)) (by omega)
theorem _root_.Go.KK.CallS.args {P : Program} {f : FuncId} {us vs : Array Value} {L : List Asn} {Q : Value → List Asn → Prop} (h : CallS P f us L Q) (e : vs = us) : CallS P f vs L Q := e ▸ h
theorem dropAll_ok {L : List Asn} {b : Nat} {aa ac af : Option Addr} {ca cc cf : Nat} {σ : Sx} (g : Ow.Good σ) :
    CallS Try.prog 55 [.pointer (some ⟨b, 0, none⟩)].toArray (blk b (arr vrE σ.vars [.slice aa σ.alive.length ca, .slice ac σ.count.length cc, .slice af (fz σ.freed).length cf] 66) :: sl boolE aa ca σ.alive :: sl intE ac cc σ.count :: sl intE af cf (fz σ.freed) :: L) (fun v M => ∃ aa' ca' ac' cc' af' cf', v = .tuple #[] ∧ M = blk b (arr vrE (dropK σ 8).vars [.slice aa' (dropK σ 8).alive.length ca', .slice ac' (dropK σ 8).count.length cc', .slice af' (fz (dropK σ 8).freed).length cf'] 66) :: sl boolE aa' ca' (dropK σ 8).alive :: sl intE ac' cc' (dropK σ 8).count :: sl intE af' cf' (fz (dropK σ 8).freed) :: L) := by
  refine CallS.ent ?_
  refine CallS.enter Try.func55 rfl rfl rfl rfl rfl ?_
  refine J.seq rfl ?_
  refine J.region rfl ?_
  refine JO.pur rfl rfl rfl (Pur.move rfl) ?_
  refine JO.nil ?_
  refine J.block rfl ?_
  refine J.loopF (ι := Nat × Option Addr × Nat × Option Addr × Nat × Option Addr × Nat) (fun q => q.1 ≤ 8) (fun q => [(3, .int .i64 (q.1 : Int))]) [(0, _)] (fun q => blk b (arr vrE (dropK σ q.1).vars [.slice q.2.1 (dropK σ q.1).alive.length q.2.2.1, .slice q.2.2.2.1 (dropK σ q.1).count.length q.2.2.2.2.1, .slice q.2.2.2.2.2.1 (fz (dropK σ q.1).freed).length q.2.2.2.2.2.2] 66) :: sl boolE q.2.1 q.2.2.1 (dropK σ q.1).alive :: sl intE q.2.2.2.1 q.2.2.2.2.1 (dropK σ q.1).count :: sl intE q.2.2.2.2.2.1 q.2.2.2.2.2.2 (fz (dropK σ q.1).freed) :: L) (fun q => 8 - q.1) (0, aa, ca, ac, cc, af, cf) rfl (.cons rfl rfl .nil) (.cons rfl rfl .nil) (by first | exact fun _ h => h | exact SubC.out | (dsimp only; exact SubC.out)) (Nat.zero_le _) ?_
  rintro ⟨k, x1, x2, x3, x4, x5, x6⟩ hk ih0
  try dsimp only
  dsimp only at hk
  refine J.seq rfl ?_
  refine J.region rfl ?_
  refine JO.pur rfl rfl rfl (Pur.lss rfl rfl) ?_
  refine JO.nil ?_
  refine J.seq rfl ?_
  refine J.splitB 4 rfl (fun h4 => ?_) (fun h4 => ?_)
  · try simp only [decide_eq_true_eq, decide_eq_false_iff_not, Bool.not_eq_true', Bool.not_eq_false', Bool.and_eq_true, Bool.or_eq_true, Bool.and_eq_false_iff, Bool.or_eq_false_iff, Option.isNone_some, Option.isSome_some, Option.isNone_none, Option.isSome_none, Int.not_lt, Int.not_le, beq_iff_eq, beq_eq_false_iff_ne, bne_iff_ne, ne_eq, Bool.not_not, Decidable.not_not] at h4
    refine J.condT rfl rfl ?_
    refine J.skip rfl ?_
    refine J.seq rfl ?_
    refine J.block rfl ?_
    refine J.seq rfl ?_
    refine J.region rfl ?_
    refine JO.pur rfl rfl rfl (Pur.move rfl) ?_
    refine JO.pur rfl rfl rfl (Pur.assign rfl) ?_
    refine JO.nil ?_
    refine J.region rfl ?_
    refine JO.pur rfl rfl rfl (Pur.move rfl) ?_
    refine JO.pur rfl rfl rfl (Pur.move rfl) ?_
    refine JO.pur rfl rfl rfl (Pur.move rfl) ?_
    refine JO.pur rfl rfl rfl (Pur.nilCheck rfl) ?_
    refine JO.pur rfl rfl rfl (Pur.fieldAddr rfl) ?_
    refine JO.pur rfl rfl rfl (Pur.idxA (k := k) rfl rfl rfl (by omega)) ?_
    refine JO.eff rfl rfl rfl (Eff.call rfl (CallS.args (drop_ok (σ := dropK σ k) (i := k) (good_dropK g hk) (by omega)) (by simp))) ?_
    rintro _ _ ⟨aa1, ca1, ac1, cc1, af1, cf1, rfl, rfl⟩
    refine JO.nil ?_
    refine J.inBlock ?_
    refine J.region rfl ?_
    refine JO.pur rfl rfl rfl (Pur.add rfl rfl (wr64 (by omega))) ?_
    refine JO.pur rfl rfl rfl (Pur.move rfl) ?_
    refine JO.nil ?_
    exact J.weaken (.cons rfl (congrArg (Value.int .i64) (by dsimp only; omega)) (.cons rfl rfl .nil)) (by first | exact fun _ h => h | exact SubC.out | (dsimp only; exact SubC.out)) (ih0 (k + 1, aa1, ca1, ac1, cc1, af1, cf1) (by dsimp only; omega) (by dsimp only; omega))
  · try simp only [decide_eq_true_eq, decide_eq_false_iff_not, Bool.not_eq_true', Bool.not_eq_false', Bool.and_eq_true, Bool.or_eq_true, Bool.and_eq_false_iff, Bool.or_eq_false_iff, Option.isNone_some, Option.isSome_some, Option.isNone_none, Option.isSome_none, Int.not_lt, Int.not_le, beq_iff_eq, beq_eq_false_iff_ne, bne_iff_ne, ne_eq, Bool.not_not, Decidable.not_not] at h4
    refine J.condF rfl rfl ?_
    refine J.exit rfl rfl ?_
    refine J.fin rfl ?_
    obtain rfl : k = 8 := by omega
    exact ⟨_, _, ⟨x1, x2, x3, x4, x5, x6, rfl, rfl⟩, rfl, fun h s => s⟩

theorem manner_ok {L : List Asn} (s : Str) :
    CallS Try.prog 61 [.string s].toArray L (fun v M => v = .int .i64 (mannerOf s : Int) ∧ M = L) := by
  refine CallS.enter Try.func61 rfl rfl rfl rfl rfl ?_
  refine J.seq rfl ?_
  refine J.region rfl ?_
  refine JO.pur rfl rfl rfl (Pur.assign rfl) ?_
  refine JO.nil ?_
  refine J.seq rfl ?_
  refine J.seq rfl ?_
  refine J.region rfl ?_
  refine JO.pur rfl rfl rfl (Pur.move rfl) ?_
  refine JO.nil ?_
  refine J.block rfl ?_
  refine J.seq rfl ?_
  refine J.region rfl ?_
  refine JO.pur rfl rfl rfl (Pur.eqlT rfl rfl) ?_
  refine JO.pur rfl rfl rfl (Pur.assign rfl) ?_
  refine JO.nil ?_
  refine J.splitB 4 rfl (fun h4 => ?_) (fun h4 => ?_)
  · try simp only [decide_eq_true_eq, decide_eq_false_iff_not, Bool.not_eq_true', Bool.not_eq_false', Bool.and_eq_true, Bool.or_eq_true, Bool.and_eq_false_iff, Bool.or_eq_false_iff, Option.isNone_some, Option.isSome_some, Option.isNone_none, Option.isSome_none, Int.not_lt, Int.not_le, beq_iff_eq, beq_eq_false_iff_ne, bne_iff_ne, ne_eq, Bool.not_not, Decidable.not_not] at h4
    refine J.condT rfl rfl ?_
    refine J.seq rfl ?_
    refine J.region rfl ?_
    refine JO.pur rfl rfl rfl (Pur.assign rfl) ?_
    refine JO.nil ?_
    refine J.ret rfl rfl ?_
    exact ⟨congrArg (Value.int .i64) (by unfold mannerOf; rw [if_pos (show s = sNew from h4)]; rfl), rfl⟩
  · try simp only [decide_eq_true_eq, decide_eq_false_iff_not, Bool.not_eq_true', Bool.not_eq_false', Bool.and_eq_true, Bool.or_eq_true, Bool.and_eq_false_iff, Bool.or_eq_false_iff, Option.isNone_some, Option.isSome_some, Option.isNone_none, Option.isSome_none, Int.not_lt, Int.not_le, beq_iff_eq, beq_eq_false_iff_ne, bne_iff_ne, ne_eq, Bool.not_not, Decidable.not_not] at h4
    refine J.condF rfl rfl ?_
    refine J.seq rfl ?_
    refine J.region rfl ?_
    refine JO.pur rfl rfl rfl (Pur.eqlT rfl rfl) ?_
    refine JO.pur rfl rfl rfl (Pur.assign rfl) ?_
    refine JO.nil ?_
    refine J.splitB 6 rfl (fun h6 => ?_) (fun h6 => ?_)
    · try simp only [decide_eq_true_eq, decide_eq_false_iff_not, Bool.not_eq_true', Bool.not_eq_false', Bool.and_eq_true, Bool.or_eq_true, Bool.and_eq_false_iff, Bool.or_eq_false_iff, Option.isNone_some, Option.isSome_some, Option.isNone_none, Option.isSome_none, Int.not_lt, Int.not_le, beq_iff_eq, beq_eq_false_iff_ne, bne_iff_ne, ne_eq, Bool.not_not, Decidable.not_not] at h6
      refine J.condT rfl rfl ?_
      refine J.seq rfl ?_
      refine J.region rfl ?_
      refine JO.pur rfl rfl rfl (Pur.assign rfl) ?_
      refine JO.nil ?_
      refine J.ret rfl rfl ?_
      exact ⟨congrArg (Value.int .i64) (by unfold mannerOf; rw [if_neg (show ¬ s = sNew from h4), if_pos (show s = sShare from h6)]; rfl), rfl⟩
    · try simp only [decide_eq_true_eq, decide_eq_false_iff_not, Bool.not_eq_true', Bool.not_eq_false', Bool.and_eq_true, Bool.or_eq_true, Bool.and_eq_false_iff, Bool.or_eq_false_iff, Option.isNone_some, Option.isSome_some, Option.isNone_none, Option.isSome_none, Int.not_lt, Int.not_le, beq_iff_eq, beq_eq_false_iff_ne, bne_iff_ne, ne_eq, Bool.not_not, Decidable.not_not] at h6
      refine J.condF rfl rfl ?_
      refine J.skip rfl ?_
      refine J.inBlock ?_
      refine J.seq rfl ?_
      refine J.region rfl ?_
      refine JO.pur rfl rfl rfl (Pur.assign rfl) ?_
      refine JO.nil ?_
      refine J.ret rfl rfl ?_
      exact ⟨congrArg (Value.int .i64) (by unfold mannerOf; rw [if_neg (show ¬ s = sNew from h4), if_neg (show ¬ s = sShare from h6)]; rfl), rfl⟩

end Go.Proofs.Ythdaopmfgmojnaa
