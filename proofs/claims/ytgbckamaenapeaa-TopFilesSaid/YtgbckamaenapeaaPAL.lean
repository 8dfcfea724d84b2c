/-
  A part of the proof of the claim that this folder bears.
-/
import Derived.Test.YtgbckamaenapeaaPAK
import Derived.Test.YtgbckamaenapeaaPAF
import Derived.Test.YtgbckamaenapeaaPAE
/- The text HBeg. -/
set_option linter.unusedVariables false
set_option linter.unusedSimpArgs false
set_option maxRecDepth 10000
namespace Go.Proofs.Ytgbckamaenapeaa
open Go Go.KK Hf

structure Ac where
  d : Int
  a : Int
  b : Int
  y : Hdr
instance : Inhabited Ac := ⟨⟨0, 0, 0, ⟨none, 0, 0⟩⟩⟩
def acE : Enc Ac := ⟨57, 4, fun x => [.int .i64 x.d, .int .i64 x.a, .int .i64 x.b, .slice x.y.a x.y.n x.y.cap], fun _ => rfl, fun s v h => by
  simp only [List.mem_cons, List.not_mem_nil, or_false] at h; rcases h with rfl | rfl | rfl | rfl <;> rfl⟩
def manyV (acs : List Ac) : Bool := acs.any (fun x => decide (1000 < x.y.n)) || decide (120 < acs.length)
theorem Many_ok {L : List Asn} {a : Option Addr} {n cap : Nat} {acs : List Ac} [SlIn acE L a acs] (hn : n = acs.length) (hmx : acs.length ≤ 9223372036854775807) :
    CallS Try.prog 30 [.slice a n cap].toArray L (fun v M => v = .bool (manyV acs) ∧ M = L) := by
  subst hn
  refine CallS.enter Try.func30 rfl rfl rfl rfl rfl ?_
  refine J.seq rfl ?_
  refine J.region rfl ?_
  refine JO.pur rfl rfl rfl (Pur.assign rfl) ?_
  refine JO.nil ?_
  refine J.seq rfl ?_
  refine J.seq rfl ?_
  refine J.region rfl ?_
  refine JO.pur rfl rfl rfl (Pur.assign rfl) ?_
  refine JO.nil ?_
  refine J.block rfl ?_
  refine J.loopF (ι := Nat) (fun q => q ≤ acs.length ∧ ∀ j x, j < q → acs[j]? = some x → ¬ 1000 < x.y.n) (fun q => [(3, .int .i64 (q : Int))]) [(0, _)] (fun q => L) (fun q => acs.length - q) 0 rfl (.cons rfl rfl .nil) (.cons rfl rfl .nil) (by first | exact fun _ h => h | exact SubC.out | (dsimp only; exact SubC.out)) ⟨Nat.zero_le _, fun j x hj => by omega⟩ ?_
  rintro k ⟨hk, hno⟩ ih0
  try dsimp only
  refine J.seq rfl ?_
  refine J.seq rfl ?_
  refine J.region rfl ?_
  refine JO.pur rfl rfl rfl (Pur.move rfl) ?_
  refine JO.pur rfl rfl rfl (Pur.move rfl) ?_
  refine JO.pur rfl rfl rfl (Pur.len rfl) ?_
  refine JO.pur rfl rfl rfl (Pur.lss rfl rfl) ?_
  refine JO.nil ?_
  refine J.splitB 7 rfl (fun h7 => ?_) (fun h7 => ?_)
  · try simp only [decide_eq_true_eq, decide_eq_false_iff_not, Bool.not_eq_true', Bool.not_eq_false', Bool.and_eq_true, Bool.or_eq_true, Bool.and_eq_false_iff, Bool.or_eq_false_iff, Option.isNone_some, Option.isSome_some, Option.isNone_none, Option.isSome_none, Int.not_lt, Int.not_le, beq_iff_eq, beq_eq_false_iff_ne, bne_iff_ne, ne_eq, Bool.not_not, Decidable.not_not] at h7
    have hkl : k < acs.length := by omega
    have hx := List.getElem?_eq_getElem hkl
    refine J.condT rfl rfl ?_
    refine J.skip rfl ?_
    refine J.seq rfl ?_
    refine J.block rfl ?_
    refine J.seq rfl ?_
    refine J.region rfl ?_
    refine JO.pur rfl rfl rfl (Pur.move rfl) ?_
    refine JO.pur rfl rfl rfl (Pur.move rfl) ?_
    refine JO.pur rfl rfl rfl (Pur.idx rfl rfl rfl (by first | rfl | (simp; done) | omega) rfl (by omega)) ?_
    refine JO.pur rfl rfl rfl (Pur.fieldAddr rfl) ?_
    refine JO.pur rfl rfl rfl (Pur.load rfl (CellIn.el rfl hx rfl)) ?_
    refine JO.setv (u' := .slice acs[k].y.a acs[k].y.n acs[k].y.cap) 14 rfl rfl ?_
    refine JO.pur rfl rfl rfl (Pur.len rfl) ?_
    refine JO.pur rfl rfl rfl (Pur.gtr rfl rfl) ?_
    refine JO.nil ?_
    refine J.splitB 16 rfl (fun h16 => ?_) (fun h16 => ?_)
    · try simp only [decide_eq_true_eq, decide_eq_false_iff_not, Bool.not_eq_true', Bool.not_eq_false', Bool.and_eq_true, Bool.or_eq_true, Bool.and_eq_false_iff, Bool.or_eq_false_iff, Option.isNone_some, Option.isSome_some, Option.isNone_none, Option.isSome_none, Int.not_lt, Int.not_le, beq_iff_eq, beq_eq_false_iff_ne, bne_iff_ne, ne_eq, Bool.not_not, Decidable.not_not] at h16
      refine J.condT rfl rfl ?_
      refine J.seq rfl ?_
      refine J.region rfl ?_
      refine JO.pur rfl rfl rfl (Pur.assign rfl) ?_
      refine JO.nil ?_
      refine J.ret rfl rfl ?_
      have hv : manyV acs = true := by unfold manyV; rw [List.any_eq_true.2 ⟨acs[k], List.getElem_mem hkl, decide_eq_true (by omega)⟩]; rfl
      exact ⟨by rw [hv]; rfl, rfl⟩
    · try simp only [decide_eq_true_eq, decide_eq_false_iff_not, Bool.not_eq_true', Bool.not_eq_false', Bool.and_eq_true, Bool.or_eq_true, Bool.and_eq_false_iff, Bool.or_eq_false_iff, Option.isNone_some, Option.isSome_some, Option.isNone_none, Option.isSome_none, Int.not_lt, Int.not_le, beq_iff_eq, beq_eq_false_iff_ne, bne_iff_ne, ne_eq, Bool.not_not, Decidable.not_not] at h16
      have hno2 : ∀ j x, j < k + 1 → acs[j]? = some x → ¬ 1000 < x.y.n := fun j x hj hx2 => by
        rcases Nat.lt_or_ge j k with h | h
        · exact hno j x h hx2
        · rw [show j = k by omega, hx] at hx2; cases hx2; omega
      refine J.condF rfl rfl ?_
      refine J.skip rfl ?_
      refine J.inBlock ?_
      refine J.region rfl ?_
      refine JO.pur rfl rfl rfl (Pur.move rfl) ?_
      refine JO.pur rfl rfl rfl (Pur.add rfl rfl (wr64 (by omega))) ?_
      refine JO.pur rfl rfl rfl (Pur.assign rfl) ?_
      refine JO.nil ?_
      exact J.weaken (.cons rfl (congrArg (Value.int .i64) (by first | rfl | (dsimp only; omega))) (.cons rfl rfl .nil)) (by first | exact fun _ h => h | exact SubC.out | (dsimp only; exact SubC.out)) (ih0 (k + 1) ⟨(by omega), hno2⟩ (by omega))
  · try simp only [decide_eq_true_eq, decide_eq_false_iff_not, Bool.not_eq_true', Bool.not_eq_false', Bool.and_eq_true, Bool.or_eq_true, Bool.and_eq_false_iff, Bool.or_eq_false_iff, Option.isNone_some, Option.isSome_some, Option.isNone_none, Option.isSome_none, Int.not_lt, Int.not_le, beq_iff_eq, beq_eq_false_iff_ne, bne_iff_ne, ne_eq, Bool.not_not, Decidable.not_not] at h7
    refine J.condF rfl rfl ?_
    refine J.exit rfl rfl ?_
    refine J.seq rfl ?_
    refine J.region rfl ?_
    refine JO.pur rfl rfl rfl (Pur.move rfl) ?_
    refine JO.pur rfl rfl rfl (Pur.len rfl) ?_
    refine JO.pur rfl rfl rfl (Pur.gtr rfl rfl) ?_
    refine JO.pur rfl rfl rfl (Pur.assign rfl) ?_
    refine JO.nil ?_
    refine J.ret rfl rfl ?_
    have hv : acs.any (fun x => decide (1000 < x.y.n)) = false := by
      rw [List.any_eq_false]
      intro x hx
      obtain ⟨j, hj, rfl⟩ := List.getElem_of_mem hx
      simpa using hno j _ (by omega) (List.getElem?_eq_getElem hj)
    refine ⟨congrArg Value.bool ?_, rfl⟩
    unfold manyV
    rw [hv, Bool.false_or]
    exact decide_eq_decide.2 (by omega)

theorem Begin_ok {L : List Asn} {b : Option Addr} {m cq : Nat} {ys : List UInt8} [SlIn byE L b ys] (hm : m = ys.length) (hb : ys.length ≤ 400) (hnil : b = none → m = 0 ∧ cq = 0) :
    CallS Try.prog 31 [.slice b m cq].toArray L (fun v M => ∃ p q pr, v = .tuple #[.pointer (some ⟨pr, 0, none⟩), .bool true] ∧ M = FA p (newF ys) :: RA q (newF ys) :: blk pr (.cells #[.pointer (some ⟨p, 0, none⟩), .pointer (some ⟨q, 0, none⟩)] 68) :: L) := by
  refine CallS.ent ?_
  refine CallS.enter Try.func31 rfl rfl rfl rfl rfl ?_
  refine J.seq rfl ?_
  refine J.region rfl ?_
  refine JO.pur rfl rfl rfl (Pur.assign rfl) ?_
  refine JO.pur rfl rfl rfl (Pur.assign rfl) ?_
  refine JO.nil ?_
  refine J.seq rfl ?_
  refine J.region rfl ?_
  refine JO.pur rfl rfl rfl (Pur.move rfl) ?_
  refine JO.eff rfl rfl rfl (Eff.call rfl (New_ok (ys := ys) hm hb hnil)) ?_
  rintro _ _ ⟨p, rfl, rfl⟩
  refine JO.pur rfl rfl rfl (Pur.move rfl) ?_
  refine JO.pur rfl rfl rfl (Pur.extract rfl rfl) ?_
  refine JO.pur rfl rfl rfl (Pur.extract rfl rfl) ?_
  refine JO.pur rfl rfl rfl (Pur.assign rfl) ?_
  refine JO.pur rfl rfl rfl (Pur.assign rfl) ?_
  refine JO.nil ?_
  refine J.seq rfl ?_
  refine J.region rfl ?_
  refine JO.pur rfl rfl rfl (Pur.move rfl) ?_
  refine JO.eff rfl rfl rfl (Eff.call rfl (rNew_ok (ys := ys) hm hb hnil)) ?_
  rintro _ _ ⟨q, rfl, rfl⟩
  refine JO.pur rfl rfl rfl (Pur.move rfl) ?_
  refine JO.pur rfl rfl rfl (Pur.extract rfl rfl) ?_
  refine JO.pur rfl rfl rfl (Pur.extract rfl rfl) ?_
  refine JO.pur rfl rfl rfl (Pur.assign rfl) ?_
  refine JO.pur rfl rfl rfl (Pur.assign rfl) ?_
  refine JO.nil ?_
  refine J.seq rfl ?_
  refine J.seq rfl ?_
  refine J.region rfl ?_
  refine JO.pur rfl rfl rfl (Pur.move rfl) ?_
  refine JO.pur rfl rfl rfl (Pur.move rfl) ?_
  refine JO.pur rfl rfl rfl (Pur.neqI rfl rfl) ?_
  refine JO.setv (u' := .bool false) 20 rfl (congrArg Value.bool (rfl)) ?_
  refine JO.pur rfl rfl rfl (Pur.move rfl) ?_
  refine JO.pur rfl rfl rfl (Pur.move rfl) ?_
  refine JO.pur rfl rfl rfl (Pur.eqlPtrNil rfl) ?_
  refine JO.setv (u' := .bool false) 23 rfl (congrArg Value.bool (rfl)) ?_
  refine JO.pur rfl rfl rfl (Pur.move rfl) ?_
  refine JO.pur rfl rfl rfl (Pur.eqlPtrNil rfl) ?_
  refine JO.setv (u' := .bool false) 25 rfl (congrArg Value.bool (rfl)) ?_
  refine JO.pur rfl rfl rfl (Pur.neqB rfl rfl) ?_
  refine JO.setv (u' := .bool false) 26 rfl (congrArg Value.bool (rfl)) ?_
  refine JO.pur rfl rfl rfl (Pur.pickF rfl rfl) ?_
  refine JO.nil ?_
  refine J.condF rfl rfl ?_
  refine J.skip rfl ?_
  refine J.seq rfl ?_
  refine J.seq rfl ?_
  refine J.region rfl ?_
  refine JO.pur rfl rfl rfl (Pur.move rfl) ?_
  refine JO.pur rfl rfl rfl (Pur.eqlPtrNil rfl) ?_
  refine JO.setv (u' := .bool false) 29 rfl (congrArg Value.bool (rfl)) ?_
  refine JO.nil ?_
  refine J.condF rfl rfl ?_
  refine J.skip rfl ?_
  refine J.seq rfl ?_
  refine J.region rfl ?_
  refine JO.pur rfl rfl rfl (Pur.move rfl) ?_
  refine JO.setv (u' := .pointer (some ⟨p, 0, none⟩)) 30 rfl rfl ?_
  refine JO.pur rfl rfl rfl (Pur.move rfl) ?_
  refine JO.setv (u' := .pointer (some ⟨q, 0, none⟩)) 31 rfl rfl ?_
  refine JO.pur rfl rfl rfl (Pur.build (cs := [_, _]) rfl rfl) ?_
  refine JO.eff rfl rfl rfl (Eff.box (cs := [_, _]) rfl rfl) ?_
  rintro _ _ ⟨b33, rfl, rfl⟩
  refine JO.pur rfl rfl rfl (Pur.assign rfl) ?_
  refine JO.pur rfl rfl rfl (Pur.assign rfl) ?_
  refine JO.nil ?_
  refine J.ret rfl rfl ?_
  refine ⟨_, _, ⟨p, q, b33, rfl, rfl⟩, rfl, SubC.out⟩

theorem Begin_big {L : List Asn} {b : Option Addr} {m cq : Nat} {ys : List UInt8} [SlIn byE L b ys] (hm : m = ys.length) (hb : ¬ ys.length ≤ 400) :
    CallS Try.prog 31 [.slice b m cq].toArray L (fun v M => v = .tuple #[.pointer none, .bool true] ∧ M = L) := by
  refine CallS.ent ?_
  refine CallS.enter Try.func31 rfl rfl rfl rfl rfl ?_
  refine J.seq rfl ?_
  refine J.region rfl ?_
  refine JO.pur rfl rfl rfl (Pur.assign rfl) ?_
  refine JO.pur rfl rfl rfl (Pur.assign rfl) ?_
  refine JO.nil ?_
  refine J.seq rfl ?_
  refine J.region rfl ?_
  refine JO.pur rfl rfl rfl (Pur.move rfl) ?_
  refine JO.eff rfl rfl rfl (Eff.call rfl (New_big (ys := ys) hm hb)) ?_
  rintro _ _ ⟨rfl, rfl⟩
  refine JO.pur rfl rfl rfl (Pur.move rfl) ?_
  refine JO.pur rfl rfl rfl (Pur.extract rfl rfl) ?_
  refine JO.pur rfl rfl rfl (Pur.extract rfl rfl) ?_
  refine JO.pur rfl rfl rfl (Pur.assign rfl) ?_
  refine JO.pur rfl rfl rfl (Pur.assign rfl) ?_
  refine JO.nil ?_
  refine J.seq rfl ?_
  refine J.region rfl ?_
  refine JO.pur rfl rfl rfl (Pur.move rfl) ?_
  refine JO.eff rfl rfl rfl (Eff.call rfl (rNew_big (ys := ys) hm hb)) ?_
  rintro _ _ ⟨rfl, rfl⟩
  refine JO.pur rfl rfl rfl (Pur.move rfl) ?_
  refine JO.pur rfl rfl rfl (Pur.extract rfl rfl) ?_
  refine JO.pur rfl rfl rfl (Pur.extract rfl rfl) ?_
  refine JO.pur rfl rfl rfl (Pur.assign rfl) ?_
  refine JO.pur rfl rfl rfl (Pur.assign rfl) ?_
  refine JO.nil ?_
  refine J.seq rfl ?_
  refine J.seq rfl ?_
  refine J.region rfl ?_
  refine JO.pur rfl rfl rfl (Pur.move rfl) ?_
  refine JO.pur rfl rfl rfl (Pur.move rfl) ?_
  refine JO.pur rfl rfl rfl (Pur.neqI rfl rfl) ?_
  refine JO.setv (u' := .bool false) 20 rfl (congrArg Value.bool (rfl)) ?_
  refine JO.pur rfl rfl rfl (Pur.move rfl) ?_
  refine JO.pur rfl rfl rfl (Pur.move rfl) ?_
  refine JO.pur rfl rfl rfl (Pur.eqlPtrNil rfl) ?_
  refine JO.setv (u' := .bool true) 23 rfl (congrArg Value.bool (rfl)) ?_
  refine JO.pur rfl rfl rfl (Pur.move rfl) ?_
  refine JO.pur rfl rfl rfl (Pur.eqlPtrNil rfl) ?_
  refine JO.setv (u' := .bool true) 25 rfl (congrArg Value.bool (rfl)) ?_
  refine JO.pur rfl rfl rfl (Pur.neqB rfl rfl) ?_
  refine JO.setv (u' := .bool false) 26 rfl (congrArg Value.bool (rfl)) ?_
  refine JO.pur rfl rfl rfl (Pur.pickF rfl rfl) ?_
  refine JO.nil ?_
  refine J.condF rfl rfl ?_
  refine J.skip rfl ?_
  refine J.seq rfl ?_
  refine J.seq rfl ?_
  refine J.region rfl ?_
  refine JO.pur rfl rfl rfl (Pur.move rfl) ?_
  refine JO.pur rfl rfl rfl (Pur.eqlPtrNil rfl) ?_
  refine JO.setv (u' := .bool true) 29 rfl (congrArg Value.bool (rfl)) ?_
  refine JO.nil ?_
  refine J.condT rfl rfl ?_
  refine J.seq rfl ?_
  refine J.region rfl ?_
  refine JO.pur rfl rfl rfl (Pur.assign rfl) ?_
  refine JO.pur rfl rfl rfl (Pur.assign rfl) ?_
  refine JO.nil ?_
  refine J.ret rfl rfl ?_
  exact ⟨_, _, ⟨rfl, rfl⟩, rfl, SubC.out⟩

end Go.Proofs.Ytgbckamaenapeaa

/- The text HApp. -/
set_option linter.unusedVariables false
set_option linter.unusedSimpArgs false
set_option maxRecDepth 10000
namespace Go.Proofs.Ytgbckamaenapeaa
open Go Go.KK Hf

def keysS (m : List (Int × Value)) (S : List Nat) : List Int := S.reverse.map (fun j => ((m[j]?).map (·.1)).getD 0)
theorem keysS_cons {m : List (Int × Value)} {S : List Nat} {j : Nat} {k : Int} {x : Value} (h : m[j]? = some (k, x)) : keysS m (j :: S) = keysS m S ++ [k] := by
  unfold keysS; rw [List.reverse_cons, List.map_append, List.map_cons, List.map_nil, h]; rfl
theorem keysS_len {m : List (Int × Value)} {S : List Nat} : (keysS m S).length = S.length := by simp [keysS]
theorem keysS_perm {m : List (Int × Value)} {S : List Nat} (hn : S.Nodup) (h1 : ∀ j, j < m.length → j ∈ S) (h2 : ∀ j ∈ S, j < m.length) : (keysS m S).Perm (m.map (·.1)) := by
  have hp : S.Perm (List.range m.length) := (List.perm_ext_iff_of_nodup hn List.nodup_range).2 fun j => ⟨fun h => List.mem_range.2 (h2 j h), fun h => h1 j (List.mem_range.1 h)⟩
  have e : m.map (·.1) = (List.range m.length).map (fun j => ((m[j]?).map (·.1)).getD 0) := by
    apply List.ext_getElem (by simp)
    intro i hi1 hi2
    simp at hi1
    simp [hi1]
  rw [e]
  exact ((List.reverse_perm S).trans hp).map _
def SB (b : Nat) (ks : List Int) : Asn := fun h => ∃ q : Option Addr × Nat, star [blk b (.cells #[.slice q.1 ks.length q.2] 34), sl intE q.1 q.2 ks] h
theorem SB_mk {b : Nat} {ks : List Int} {a : Option Addr} {c : Nat} {L : List Asn} {h : Hp} (s : Sat h (blk b (.cells #[.slice a ks.length c] 34) :: sl intE a c ks :: L)) : Sat h (SB b ks :: L) := by
  have h1 := (Sat.star (M := [blk b (.cells #[.slice a ks.length c] 34), sl intE a c ks]) (L := L)).2 s
  exact h1.cons_imp (fun k hk => ⟨(a, c), hk⟩) (fun _ h => h)
abbrev KI := Option (Nat × List Nat)
def itA (mb : Nat) (m : List (Int × Value)) : KI → Asn
  | none => mp intK mb m
  | some (i, S) => mpIt intK mb i m S
def ksI (m : List (Int × Value)) : KI → List Int
  | none => []
  | some (_, S) => keysS m S
theorem appseq_ok {L : List Asn} {bx mb : Nat} {m : List (Int × Value)} (hml : m.length ≤ 100000) :
    CallS Try.prog 73 [.slice none 0 0, .func (.func 70) #[] #[.pointer (some ⟨bx, 0, none⟩)]].toArray (blk bx (.cells #[.map (some mb)] 60) :: mp intK mb m :: L) (fun v M => ∃ a' c' ks, v = .slice a' ks.length c' ∧ ks.Perm (m.map (·.1)) ∧ M = sl intE a' c' ks :: mp intK mb m :: L) := by
  refine CallS.ent ?_
  refine CallS.enter Try.func73 rfl rfl rfl rfl rfl ?_
  refine J.seq rfl ?_
  refine J.region rfl ?_
  refine JO.eff rfl rfl rfl (Eff.box (cs := [_]) rfl rfl) ?_
  rintro _ _ ⟨b2, rfl, rfl⟩
  refine JO.pur rfl rfl rfl (Pur.assign rfl) ?_
  refine JO.nil ?_
  refine J.seq rfl ?_
  refine J.seq rfl ?_
  refine J.region rfl ?_
  refine JO.pur rfl rfl rfl (Pur.move rfl) ?_
  refine JO.nil ?_
  refine J.tail fun w0 => ?_
  refine JR.block ?_
  refine JR.rangeFunc1 (ι := KI) (H := fun s => blk bx (.cells #[.map (some mb)] 60) :: itA mb m s :: SB b2 (ksI m s) :: L) (Mid := fun s s' => blk bx (.cells #[.map (some mb)] 60) :: itA mb m s' :: SB b2 (ksI m s) :: L)
    (step := fun s s' v => ∃ i S j k x, m[j]? = some (k, x) ∧ ¬ j ∈ S ∧ (∀ y ∈ S, y < m.length) ∧ S.Nodup ∧ s = some (i, S) ∧ s' = some (i, j :: S) ∧ v = .int .i64 k)
    (fin := fun s => ∃ i S, s = some (i, S) ∧ S.Nodup ∧ (∀ j, j < m.length → j ∈ S) ∧ ∀ j ∈ S, j < m.length)
    rfl rfl (enters_body _ _) rfl none (fun v => [(5, v), (2, .pointer (some ⟨b2, 0, none⟩))]) (fun h s => by have s2 := sl_nil_new (E := intE) s; show Sat h (blk bx (.cells #[.map (some mb)] 60) :: mp intK mb m :: SB b2 [] :: L); exact SubC.out h (SB_mk (b := b2) (ks := []) (a := none) (c := 0) (SubC.out (M := blk b2 (.cells #[.slice none ([] : List Int).length 0] 34) :: sl intE none 0 [] :: blk bx (.cells #[.map (some mb)] 60) :: mp intK mb m :: L) h s2))) ?hit ?hassign ?hbody ?hdone
  case hit =>
    intro l A B hy w hs he
    have h1 := keys_it (l := l) (bx := bx) (mb := mb) (m := m) (w0 := w0) A B (fun S => SB b2 (keysS m S) :: L) (fun i S j k x h1 h2 h3 h4 w hs he => hy (some (i, S)) (some (i, j :: S)) (.int .i64 k) ⟨i, S, j, k, x, h1, h2, h3, h4, rfl, rfl, rfl⟩ w hs he) w hs he
    refine CallsIn.mono h1 ?_
    rintro e w' ⟨h1, h2, i, S, h3, h4, h5, h6⟩
    exact ⟨h1, h2, some (i, S), ⟨i, S, rfl, h3, h4, h5⟩, h6⟩
  case hassign =>
    intro l v M
    refine JR.region rfl ?_
    refine RO.pur rfl rfl rfl rfl (Pur.assign rfl) ?_
    refine RO.nil ?_
    exact ⟨rfl, rfl, rfl, .cons rfl rfl (.cons rfl rfl .nil)⟩
  case hbody =>
    rintro l _ _ _ A B ⟨i, S, j, k, x, h1, h2, h3, h4, rfl, rfl, rfl⟩
    have hsl := nodup_le _ _ h4 h3
    have hkl := keysS_len (m := m) (S := S)
    refine JR.imp (M := SB b2 (keysS m S) :: A :: B :: blk bx (.cells #[.map (some mb)] 60) :: mpIt intK mb i m (j :: S) :: L) (fun h s => SubC.out (L := A :: B :: blk bx (.cells #[.map (some mb)] 60) :: mpIt intK mb i m (j :: S) :: SB b2 (keysS m S) :: L) h s) ?_
    refine JR.ex (A := fun q : Option Addr × Nat => star [blk b2 (.cells #[.slice q.1 (keysS m S).length q.2] 34), sl intE q.1 q.2 (keysS m S)]) fun ⟨a0, c0⟩ => ?_
    refine JR.star ?_
    refine JR.imp (M := blk b2 (.cells #[.slice a0 (keysS m S).length c0] 34) :: sl intE a0 c0 (keysS m S) :: A :: B :: blk bx (.cells #[.map (some mb)] 60) :: mpIt intK mb i m (j :: S) :: L) (fun h s => s) ?_
    refine JR.block ?_
    refine JR.region rfl ?_
    refine RO.pur rfl rfl rfl rfl (Pur.load rfl (CellIn.blk rfl)) ?_
    refine RO.pur rfl rfl rfl rfl (Pur.move rfl) ?_
    refine RO.eff rfl rfl rfl rfl (Eff.buildSlice intE [k] rfl rfl rfl rfl rfl rfl rfl) ?_
    rintro _ _ ⟨b10, rfl, -, rfl⟩
    refine RO.eff rfl rfl rfl rfl (Eff.append rfl rfl rfl rfl rfl rfl (by decide) (by simp; omega) (by simp; omega) (fun h => by cases h)) ?_
    rintro _ _ ⟨a11, c11, rfl, rfl⟩
    refine RO.effN rfl rfl rfl (Eff.storeB rfl rfl rfl .head) ?_
    rintro _ _ ⟨rfl, rfl⟩
    refine RO.nil ?_
    refine ⟨rfl, fun h s => ?_⟩
    have s2 := SB_mk (b := b2) (ks := keysS m S ++ [k]) (a := a11) (c := c11) (L := A :: B :: blk bx (.cells #[.map (some mb)] 60) :: mpIt intK mb i m (j :: S) :: L) (by rw [List.length_append]; exact SubC.out h s)
    rw [← keysS_cons h1] at s2
    exact SubC.out (M := A :: B :: blk bx (.cells #[.map (some mb)] 60) :: mpIt intK mb i m (j :: S) :: SB b2 (keysS m (j :: S)) :: L) h s2
  case hdone =>
    rintro D A _ ⟨i, S, rfl, h1, h2, h3⟩
    refine JR.imp (M := SB b2 (keysS m S) :: A :: blk D dfr :: blk bx (.cells #[.map (some mb)] 60) :: mpIt intK mb i m S :: L) (fun h s => SubC.out (L := A :: blk D dfr :: blk bx (.cells #[.map (some mb)] 60) :: mpIt intK mb i m S :: SB b2 (keysS m S) :: L) h s) ?_
    refine JR.ex (A := fun q : Option Addr × Nat => star [blk b2 (.cells #[.slice q.1 (keysS m S).length q.2] 34), sl intE q.1 q.2 (keysS m S)]) fun ⟨a0, c0⟩ => ?_
    refine JR.star ?_
    refine JR.imp (M := A :: blk D dfr :: blk b2 (.cells #[.slice a0 (keysS m S).length c0] 34) :: sl intE a0 c0 (keysS m S) :: blk bx (.cells #[.map (some mb)] 60) :: mpIt intK mb i m S :: L) (fun h s => SubC.out (L := blk b2 (.cells #[.slice a0 (keysS m S).length c0] 34) :: sl intE a0 c0 (keysS m S) :: A :: blk D dfr :: blk bx (.cells #[.map (some mb)] 60) :: mpIt intK mb i m S :: L) h s) ?_
    refine JR.seq ?_
    refine JR.region rfl ?_
    refine RO.pur rfl rfl rfl rfl (Pur.load rfl (CellIn.blk rfl)) ?_
    refine RO.pur rfl rfl rfl rfl (Pur.assign rfl) ?_
    refine RO.nil ?_
    refine JR.ret ?_
    refine ⟨.inl rfl, D, A, _, _, rfl, rfl, (.tmp rfl .nil), ⟨_, _, ⟨a0, c0, keysS m S, rfl, keysS_perm h1 h2 h3, rfl⟩, rfl, fun h s => ?_⟩⟩
    have s2 : Sat h (mpIt intK mb i m S :: sl intE a0 c0 (keysS m S) :: L) := SubC.out h s
    have s3 := s2.cons_imp (B := mp intK mb m) (fun _ h => mpIt_done h) (fun _ h => h)
    exact s3.swap

end Go.Proofs.Ytgbckamaenapeaa

/- The text HOpen. -/
set_option linter.unusedVariables false
set_option linter.unusedSimpArgs false
set_option maxRecDepth 10000
namespace Go.Proofs.Ytgbckamaenapeaa
open Go Go.KK Hf

theorem keys_ok {L : List Asn} {mb : Nat} :
    CallS Try.prog 60 [.map (some mb)].toArray L (fun v M => ∃ bx, v = .func (.func 70) #[] #[.pointer (some ⟨bx, 0, none⟩)] ∧ M = blk bx (.cells #[.map (some mb)] 60) :: L) := by
  refine CallS.enter Try.func60 rfl rfl rfl rfl rfl ?_
  refine J.seq rfl ?_
  refine J.region rfl ?_
  refine JO.eff rfl rfl rfl (Eff.box (cs := [_]) rfl rfl) ?_
  rintro _ _ ⟨b1, rfl, rfl⟩
  refine JO.pur rfl rfl rfl (Pur.assign rfl) ?_
  refine JO.nil ?_
  refine J.seq rfl ?_
  refine J.region rfl ?_
  refine JO.pur rfl rfl rfl (Pur.makeFunc rfl rfl) ?_
  refine JO.pur rfl rfl rfl (Pur.assign rfl) ?_
  refine JO.nil ?_
  refine J.ret rfl rfl ?_
  exact ⟨b1, rfl, rfl⟩

theorem collect_ok {L : List Asn} {bx mb : Nat} {m : List (Int × Value)} (hml : m.length ≤ 100000) :
    CallS Try.prog 68 [.func (.func 70) #[] #[.pointer (some ⟨bx, 0, none⟩)]].toArray (blk bx (.cells #[.map (some mb)] 60) :: mp intK mb m :: L) (fun v M => ∃ a' c' ks, v = .slice a' ks.length c' ∧ ks.Perm (m.map (·.1)) ∧ M = sl intE a' c' ks :: mp intK mb m :: L) := by
  refine CallS.ent ?_
  refine CallS.enter Try.func68 rfl rfl rfl rfl rfl ?_
  refine J.seq rfl ?_
  refine J.region rfl ?_
  refine JO.pur rfl rfl rfl (Pur.assign rfl) ?_
  refine JO.nil ?_
  refine J.seq rfl ?_
  refine J.region rfl ?_
  refine JO.pur rfl rfl rfl (Pur.move rfl) ?_
  refine JO.eff rfl rfl rfl (Eff.call rfl (appseq_ok hml)) ?_
  rintro _ _ ⟨a4, c4, ks, rfl, hp, rfl⟩
  refine JO.pur rfl rfl rfl (Pur.assign rfl) ?_
  refine JO.nil ?_
  refine J.ret rfl rfl ?_
  exact ⟨_, _, ⟨a4, c4, ks, rfl, hp, rfl⟩, rfl, SubC.out⟩

theorem sorted_ok {L : List Asn} {bx mb : Nat} {m : List (Int × Value)} (hml : m.length ≤ 100000) :
    CallS Try.prog 59 [.func (.func 70) #[] #[.pointer (some ⟨bx, 0, none⟩)]].toArray (blk bx (.cells #[.map (some mb)] 60) :: mp intK mb m :: L) (fun v M => ∃ a' c' ks, v = .slice a' ks.length c' ∧ ks.Perm (m.map (·.1)) ∧ M = sl intE a' c' (srt ks) :: mp intK mb m :: L) := by
  refine CallS.ent ?_
  refine CallS.enter Try.func59 rfl rfl rfl rfl rfl ?_
  refine J.seq rfl ?_
  refine J.region rfl ?_
  refine JO.pur rfl rfl rfl (Pur.assign rfl) ?_
  refine JO.nil ?_
  refine J.seq rfl ?_
  refine J.region rfl ?_
  refine JO.pur rfl rfl rfl (Pur.move rfl) ?_
  refine JO.eff rfl rfl rfl (Eff.call rfl (collect_ok hml)) ?_
  rintro _ _ ⟨a5, c5, ks, rfl, hp, rfl⟩
  have hkl : ks.length = m.length := by have := hp.length_eq; simpa using this
  refine JO.pur rfl rfl rfl (Pur.assign rfl) ?_
  refine JO.nil ?_
  refine J.seq rfl ?_
  refine J.region rfl ?_
  refine JO.pur rfl rfl rfl (Pur.move rfl) ?_
  refine JO.eff rfl rfl rfl (Eff.call rfl (Sort_ok (xs := ks) (by omega))) ?_
  rintro _ _ ⟨rfl, rfl⟩
  refine JO.nil ?_
  refine J.seq rfl ?_
  refine J.region rfl ?_
  refine JO.pur rfl rfl rfl (Pur.move rfl) ?_
  refine JO.pur rfl rfl rfl (Pur.assign rfl) ?_
  refine JO.nil ?_
  refine J.ret rfl rfl ?_
  exact ⟨_, _, ⟨a5, c5, ks, rfl, hp, rfl⟩, rfl, SubC.out⟩

theorem srt_eq {ks ns : List Int} (hp : ks.Perm ns) (ho : ns.Pairwise (· < ·)) : srt ks = ns := by
  have h1 : (srt ks).Perm ns := (List.mergeSort_perm ks _).trans hp
  have h2 : (srt ks).Pairwise (fun x y => decide (x ≤ y) = true) := List.pairwise_mergeSort (le := fun (x y : Int) => decide (x ≤ y)) (fun a b c h1 h2 => decide_eq_true (Int.le_trans (of_decide_eq_true h1) (of_decide_eq_true h2))) (fun a b => by rcases Int.le_total a b with h | h <;> simp [h]) ks
  exact h1.eq_of_pairwise (le := fun x y => decide (x ≤ y) = true) (fun a b _ _ h1 h2 => Int.le_antisymm (of_decide_eq_true h1) (of_decide_eq_true h2)) h2 (ho.imp fun h => decide_eq_true (Int.le_of_lt h))
theorem ents_keys {rs : List Cr} {F : Fl} (hr : rs.length = F.opens.length) : (entsC rs F.opens).map (·.1) = numsF F := by
  unfold entsC numsF
  apply List.ext_getElem?
  intro j
  rw [List.getElem?_map, List.getElem?_map, List.getElem?_zipWith]
  cases h1 : F.opens[j]? with
  | none => cases rs[j]? <;> rfl
  | some c =>
    have hj : j < rs.length := by rw [hr]; exact (List.getElem?_eq_some_iff.1 h1).1
    rw [List.getElem?_eq_getElem hj]; rfl
theorem Open_ok {L : List Asn} {p : Nat} {F : Fl} {k : Nat} {ns : List Int} (g : Hf.Good F k) (hk : k ≤ 100000) (hpn : (numsF F).Perm ns) (ho : ns.Pairwise (· < ·)) :
    CallS Try.prog 35 [.pointer (some ⟨p, 0, none⟩)].toArray (FA p F :: L) (fun v M => ∃ a' c', v = .slice a' ns.length c' ∧ M = sl intE a' c' ns :: FA p F :: L) := by
  refine CallS.ent ?_
  refine CallS.enter Try.func35 rfl rfl rfl rfl rfl ?_
  refine J.seq rfl ?_
  refine FA_open fun ab cb mb rs hr => ?_
  refine J.region rfl ?_
  refine JO.pur rfl rfl rfl (Pur.assign rfl) ?_
  refine JO.nil ?_
  refine J.seq rfl ?_
  refine J.seq rfl ?_
  refine J.region rfl ?_
  refine JO.pur rfl rfl rfl (Pur.move rfl) ?_
  refine JO.effR rfl rfl rfl (Eff.call rfl (none_ok)) ?_
  refine JO.setv (u' := .bool false) 4 rfl (congrArg Value.bool (rfl)) ?_
  refine JO.nil ?_
  refine J.condF rfl rfl ?_
  refine J.skip rfl ?_
  refine J.seq rfl ?_
  refine J.pullC (A := mp intK mb (entsC rs F.opens)) inferInstance ?_
  have hel := entsC_len hr
  have gol := g.ol
  refine J.region rfl ?_
  refine JO.pur rfl rfl rfl (Pur.move rfl) ?_
  refine JO.pur rfl rfl rfl (Pur.nilCheck rfl) ?_
  refine JO.pur rfl rfl rfl (Pur.fieldAddr rfl) ?_
  refine JO.pur rfl rfl rfl (Pur.load rfl (CellIn.blk rfl)) ?_
  refine JO.eff rfl rfl rfl (Eff.call rfl (keys_ok)) ?_
  rintro _ _ ⟨bx, rfl, rfl⟩
  refine JO.eff rfl rfl rfl (Eff.call rfl (sorted_ok (m := entsC rs F.opens) (by omega))) ?_
  rintro _ _ ⟨a10, c10, ks, rfl, hp, rfl⟩
  refine JO.pur rfl rfl rfl (Pur.assign rfl) ?_
  refine JO.nil ?_
  refine J.ret rfl rfl ?_
  rw [ents_keys hr] at hp
  have hse := srt_eq (hp.trans hpn) ho
  have hkl : ks.length = ns.length := (hp.trans hpn).length_eq
  refine ⟨_, _, ⟨a10, c10, by rw [← hkl]; rfl, rfl⟩, rfl, fun h s => ?_⟩
  rw [hse] at s
  have s2 := FA_mk (L := sl intE a10 c10 ns :: L) (F := F) (p := p) (ab := ab) (cb := cb) (mb := mb) hr (SubC.out h s)
  exact s2.swap

end Go.Proofs.Ytgbckamaenapeaa

/- The text HCut2. -/
set_option linter.unusedVariables false
set_option linter.unusedSimpArgs false
set_option maxRecDepth 10000
namespace Go.Proofs.Ytgbckamaenapeaa
open Go Go.KK Hf

theorem Cuts_ok {L : List Asn} (size n : Int) :
    CallS Try.prog 12 [.int .i64 size, .int .i64 n].toArray L (fun v M => ∃ a' c', v = .tuple #[.slice a' (cutsV size n).1.length c', .int .i64 (cutsV size n).2] ∧ M = sl pairE a' c' (cutsV size n).1 :: L) := by
  refine CallS.ent ?_
  refine CallS.enter Try.func12 rfl rfl rfl rfl rfl ?_
  refine J.seq rfl ?_
  refine J.region rfl ?_
  refine JO.pur rfl rfl rfl (Pur.assign rfl) ?_
  refine JO.pur rfl rfl rfl (Pur.assign rfl) ?_
  refine JO.nil ?_
  refine J.seq rfl ?_
  refine J.seq rfl ?_
  refine J.region rfl ?_
  refine JO.pur rfl rfl rfl (Pur.move rfl) ?_
  refine JO.pur rfl rfl rfl (Pur.lss rfl rfl) ?_
  refine JO.pur rfl rfl rfl (Pur.move rfl) ?_
  refine JO.splitB 10 rfl (fun h10 => ?_) (fun h10 => ?_)
  · try simp only [decide_eq_true_eq, decide_eq_false_iff_not, Bool.not_eq_true', Bool.not_eq_false', Bool.and_eq_true, Bool.or_eq_true, Bool.and_eq_false_iff, Bool.or_eq_false_iff, Option.isNone_some, Option.isSome_some, Option.isNone_none, Option.isSome_none, Int.not_lt, Int.not_le, beq_iff_eq, beq_eq_false_iff_ne, bne_iff_ne, ne_eq, Bool.not_not, Decidable.not_not] at h10
    refine JO.no rfl rfl rfl ?_
    refine JO.no rfl rfl rfl ?_
    refine JO.pur rfl rfl rfl (Pur.pickT rfl rfl) ?_
    refine JO.pur rfl rfl rfl (Pur.move rfl) ?_
    refine JO.no rfl rfl rfl ?_
    refine JO.no rfl rfl rfl ?_
    refine JO.pur rfl rfl rfl (Pur.pickT rfl rfl) ?_
    refine JO.pur rfl rfl rfl (Pur.move rfl) ?_
    refine JO.no rfl rfl rfl ?_
    refine JO.no rfl rfl rfl ?_
    refine JO.pur rfl rfl rfl (Pur.pickT rfl rfl) ?_
    refine JO.nil ?_
    refine J.condT rfl rfl ?_
    refine J.seq rfl ?_
    refine J.region rfl ?_
    refine JO.pur rfl rfl rfl (Pur.assign rfl) ?_
    refine JO.pur rfl rfl rfl (Pur.assign rfl) ?_
    refine JO.nil ?_
    refine J.ret rfl rfl ?_
    have hbad : badC size n := by unfold badC; omega
    refine ⟨_, _, ⟨none, 0, by rw [cut_bad hbad]; rfl, rfl⟩, rfl, fun h s => ?_⟩
    rw [cut_bad hbad]
    exact sl_nil_new s
  · try simp only [decide_eq_true_eq, decide_eq_false_iff_not, Bool.not_eq_true', Bool.not_eq_false', Bool.and_eq_true, Bool.or_eq_true, Bool.and_eq_false_iff, Bool.or_eq_false_iff, Option.isNone_some, Option.isSome_some, Option.isNone_none, Option.isSome_none, Int.not_lt, Int.not_le, beq_iff_eq, beq_eq_false_iff_ne, bne_iff_ne, ne_eq, Bool.not_not, Decidable.not_not] at h10
    refine JO.pur rfl rfl rfl (Pur.move rfl) ?_
    refine JO.pur rfl rfl rfl (Pur.gtr rfl rfl) ?_
    refine JO.pur rfl rfl rfl (Pur.pickF rfl rfl) ?_
    refine JO.pur rfl rfl rfl (Pur.move rfl) ?_
    refine JO.splitB 14 rfl (fun h14 => ?_) (fun h14 => ?_)
    · try simp only [decide_eq_true_eq, decide_eq_false_iff_not, Bool.not_eq_true', Bool.not_eq_false', Bool.and_eq_true, Bool.or_eq_true, Bool.and_eq_false_iff, Bool.or_eq_false_iff, Option.isNone_some, Option.isSome_some, Option.isNone_none, Option.isSome_none, Int.not_lt, Int.not_le, beq_iff_eq, beq_eq_false_iff_ne, bne_iff_ne, ne_eq, Bool.not_not, Decidable.not_not] at h14
      refine JO.no rfl rfl rfl ?_
      refine JO.no rfl rfl rfl ?_
      refine JO.pur rfl rfl rfl (Pur.pickT rfl rfl) ?_
      refine JO.pur rfl rfl rfl (Pur.move rfl) ?_
      refine JO.no rfl rfl rfl ?_
      refine JO.no rfl rfl rfl ?_
      refine JO.pur rfl rfl rfl (Pur.pickT rfl rfl) ?_
      refine JO.nil ?_
      refine J.condT rfl rfl ?_
      refine J.seq rfl ?_
      refine J.region rfl ?_
      refine JO.pur rfl rfl rfl (Pur.assign rfl) ?_
      refine JO.pur rfl rfl rfl (Pur.assign rfl) ?_
      refine JO.nil ?_
      refine J.ret rfl rfl ?_
      have hbad : badC size n := by unfold badC; omega
      refine ⟨_, _, ⟨none, 0, by rw [cut_bad hbad]; rfl, rfl⟩, rfl, fun h s => ?_⟩
      rw [cut_bad hbad]
      exact sl_nil_new s
    · try simp only [decide_eq_true_eq, decide_eq_false_iff_not, Bool.not_eq_true', Bool.not_eq_false', Bool.and_eq_true, Bool.or_eq_true, Bool.and_eq_false_iff, Bool.or_eq_false_iff, Option.isNone_some, Option.isSome_some, Option.isNone_none, Option.isSome_none, Int.not_lt, Int.not_le, beq_iff_eq, beq_eq_false_iff_ne, bne_iff_ne, ne_eq, Bool.not_not, Decidable.not_not] at h14
      refine JO.pur rfl rfl rfl (Pur.move rfl) ?_
      refine JO.pur rfl rfl rfl (Pur.lss rfl rfl) ?_
      refine JO.pur rfl rfl rfl (Pur.pickF rfl rfl) ?_
      refine JO.pur rfl rfl rfl (Pur.move rfl) ?_
      refine JO.splitB 18 rfl (fun h18 => ?_) (fun h18 => ?_)
      · try simp only [decide_eq_true_eq, decide_eq_false_iff_not, Bool.not_eq_true', Bool.not_eq_false', Bool.and_eq_true, Bool.or_eq_true, Bool.and_eq_false_iff, Bool.or_eq_false_iff, Option.isNone_some, Option.isSome_some, Option.isNone_none, Option.isSome_none, Int.not_lt, Int.not_le, beq_iff_eq, beq_eq_false_iff_ne, bne_iff_ne, ne_eq, Bool.not_not, Decidable.not_not] at h18
        refine JO.no rfl rfl rfl ?_
        refine JO.no rfl rfl rfl ?_
        refine JO.pur rfl rfl rfl (Pur.pickT rfl rfl) ?_
        refine JO.nil ?_
        refine J.condT rfl rfl ?_
        refine J.seq rfl ?_
        refine J.region rfl ?_
        refine JO.pur rfl rfl rfl (Pur.assign rfl) ?_
        refine JO.pur rfl rfl rfl (Pur.assign rfl) ?_
        refine JO.nil ?_
        refine J.ret rfl rfl ?_
        have hbad : badC size n := by unfold badC; omega
        refine ⟨_, _, ⟨none, 0, by rw [cut_bad hbad]; rfl, rfl⟩, rfl, fun h s => ?_⟩
        rw [cut_bad hbad]
        exact sl_nil_new s
      · try simp only [decide_eq_true_eq, decide_eq_false_iff_not, Bool.not_eq_true', Bool.not_eq_false', Bool.and_eq_true, Bool.or_eq_true, Bool.and_eq_false_iff, Bool.or_eq_false_iff, Option.isNone_some, Option.isSome_some, Option.isNone_none, Option.isSome_none, Int.not_lt, Int.not_le, beq_iff_eq, beq_eq_false_iff_ne, bne_iff_ne, ne_eq, Bool.not_not, Decidable.not_not] at h18
        refine JO.pur rfl rfl rfl (Pur.move rfl) ?_
        refine JO.pur rfl rfl rfl (Pur.gtr rfl rfl) ?_
        refine JO.pur rfl rfl rfl (Pur.pickF rfl rfl) ?_
        refine JO.nil ?_
        refine J.splitB 21 rfl (fun h21 => ?_) (fun h21 => ?_)
        · try simp only [decide_eq_true_eq, decide_eq_false_iff_not, Bool.not_eq_true', Bool.not_eq_false', Bool.and_eq_true, Bool.or_eq_true, Bool.and_eq_false_iff, Bool.or_eq_false_iff, Option.isNone_some, Option.isSome_some, Option.isNone_none, Option.isSome_none, Int.not_lt, Int.not_le, beq_iff_eq, beq_eq_false_iff_ne, bne_iff_ne, ne_eq, Bool.not_not, Decidable.not_not] at h21
          refine J.condT rfl rfl ?_
          refine J.seq rfl ?_
          refine J.region rfl ?_
          refine JO.pur rfl rfl rfl (Pur.assign rfl) ?_
          refine JO.pur rfl rfl rfl (Pur.assign rfl) ?_
          refine JO.nil ?_
          refine J.ret rfl rfl ?_
          have hbad : badC size n := by unfold badC; omega
          refine ⟨_, _, ⟨none, 0, by rw [cut_bad hbad]; rfl, rfl⟩, rfl, fun h s => ?_⟩
          rw [cut_bad hbad]
          exact sl_nil_new s
        · try simp only [decide_eq_true_eq, decide_eq_false_iff_not, Bool.not_eq_true', Bool.not_eq_false', Bool.and_eq_true, Bool.or_eq_true, Bool.and_eq_false_iff, Bool.or_eq_false_iff, Option.isNone_some, Option.isSome_some, Option.isNone_none, Option.isSome_none, Int.not_lt, Int.not_le, beq_iff_eq, beq_eq_false_iff_ne, bne_iff_ne, ne_eq, Bool.not_not, Decidable.not_not] at h21
          refine J.condF rfl rfl ?_
          refine J.skip rfl ?_
          refine J.seq rfl ?_
          have hok : ¬ badC size n := by unfold badC; omega
          refine J.region rfl ?_
          refine JO.pur rfl rfl rfl (Pur.assign rfl) ?_
          refine JO.nil ?_
          refine J.seq rfl ?_
          refine J.seq rfl ?_
          refine J.region rfl ?_
          refine JO.pur rfl rfl rfl (Pur.move rfl) ?_
          refine JO.pur rfl rfl rfl (Pur.move rfl) ?_
          refine JO.nil ?_
          refine J.block rfl ?_
          refine J.loopF (ι := Nat × Option Addr × Nat) (fun q => (q.1 : Int) ≤ n) (fun q => [(6, .slice q.2.1 (List.range q.1).length q.2.2), (23, .int .i64 (q.1 : Int))]) [(0, _), (1, _), (22, _)] (fun q => sl pairE q.2.1 q.2.2 ((List.range q.1).map (cutP size n)) :: L) (fun q => n.toNat - q.1) (0, none, 0) rfl (.cons rfl rfl (.cons rfl rfl (.cons rfl rfl .nil))) (.cons rfl rfl (.cons rfl rfl .nil)) (fun h s => by dsimp only; rw [List.range_zero, List.map_nil]; exact SubC.out h (sl_nil_new (E := pairE) s)) (by show ((0 : Nat) : Int) ≤ n; omega) ?_
          rintro ⟨k, a6, c6⟩ hk ih0
          try dsimp only
          dsimp only at hk
          have hrl : (List.range k).length = k := List.length_range
          have m1 := cut_mul hok (k := k) (by omega)
          have m2 := cut_mul hok (k := k + 1) (by omega)
          have q1 := cut_nonneg hok (k := k) (by omega)
          have q2 := cut_nonneg hok (k := k + 1) (by omega)
          rw [show (((k + 1 : Nat) : Nat) : Int) = (k : Int) + 1 by omega] at m2
          unfold cutA at q1 q2
          rw [show (((k + 1 : Nat) : Nat) : Int) = (k : Int) + 1 by omega] at q2
          refine J.seq rfl ?_
          refine J.region rfl ?_
          refine JO.pur rfl rfl rfl (Pur.lss rfl rfl) ?_
          refine JO.nil ?_
          refine J.seq rfl ?_
          refine J.splitB 24 rfl (fun h24 => ?_) (fun h24 => ?_)
          · try simp only [decide_eq_true_eq, decide_eq_false_iff_not, Bool.not_eq_true', Bool.not_eq_false', Bool.and_eq_true, Bool.or_eq_true, Bool.and_eq_false_iff, Bool.or_eq_false_iff, Option.isNone_some, Option.isSome_some, Option.isNone_none, Option.isSome_none, Int.not_lt, Int.not_le, beq_iff_eq, beq_eq_false_iff_ne, bne_iff_ne, ne_eq, Bool.not_not, Decidable.not_not] at h24
            refine J.condT rfl rfl ?_
            refine J.skip rfl ?_
            refine J.seq rfl ?_
            refine J.block rfl ?_
            refine J.seq rfl ?_
            refine J.region rfl ?_
            refine JO.pur rfl rfl rfl (Pur.move rfl) ?_
            refine JO.pur rfl rfl rfl (Pur.assign rfl) ?_
            refine JO.nil ?_
            refine J.mask1 (n := 16) [] rfl Try.mixed rfl (by kernel_rfl) ?_
            refine JM.take 0 (fun _ h => h.tail) rfl (by kernel_rfl) rfl rfl rfl (m' := 1) rfl (Pur.move rfl) ?_
            refine JM.take 1 (fun _ h => h.tail) rfl (by kernel_rfl) rfl rfl rfl (m' := 3) rfl (Pur.move rfl) ?_
            refine JM.take 2 (fun _ h => h.tail) rfl (by kernel_rfl) rfl rfl rfl (m' := 7) rfl (Pur.move rfl) ?_
            refine JM.take 3 (fun _ h => h.tail) rfl (by kernel_rfl) rfl rfl rfl (m' := 15) rfl (Pur.mul rfl rfl (wr64 (by omega))) ?_
            refine JM.take 4 (fun _ h => h.tail) rfl (by kernel_rfl) rfl rfl rfl (m' := 31) rfl (Pur.move rfl) ?_
            refine JM.take 5 (fun _ h => h.tail) rfl (by kernel_rfl) rfl rfl rfl (m' := 63) rfl (Pur.quo rfl rfl (by omega)) ?_
            refine JM.setv (u' := .int .i64 (Int.tdiv ((k : Int) * size) n)) 31 rfl (congrArg (Value.int .i64) (wr64 (by omega))) ?_
            refine JM.take 6 (fun _ h => h.tail) rfl (by kernel_rfl) rfl rfl rfl (m' := 127) rfl (Pur.move rfl) ?_
            refine JM.take 7 (fun _ h => h.tail) rfl (by kernel_rfl) rfl rfl rfl (m' := 255) rfl (Pur.add rfl rfl (wr64 (by omega))) ?_
            refine JM.take 8 (fun _ h => h.tail) rfl (by kernel_rfl) rfl rfl rfl (m' := 511) rfl (Pur.move rfl) ?_
            refine JM.take 9 (fun _ h => h.tail) rfl (by kernel_rfl) rfl rfl rfl (m' := 1023) rfl (Pur.mul rfl rfl (wr64 (by omega))) ?_
            refine JM.take 10 (fun _ h => h.tail) rfl (by kernel_rfl) rfl rfl rfl (m' := 2047) rfl (Pur.move rfl) ?_
            refine JM.take 11 (fun _ h => h.tail) rfl (by kernel_rfl) rfl rfl rfl (m' := 4095) rfl (Pur.quo rfl rfl (by omega)) ?_
            refine JM.setv (u' := .int .i64 (Int.tdiv (((k : Int) + 1) * size) n)) 37 rfl (congrArg (Value.int .i64) (wr64 (by omega))) ?_
            refine JM.take 12 (fun _ h => h.tail) rfl (by kernel_rfl) rfl rfl rfl (m' := 8191) rfl (Pur.build (cs := [_, _]) rfl rfl) ?_
            refine JM.one (i := 13) (by kernel_rfl) ?_
            refine JMi.eff rfl rfl rfl rfl (m' := 16383) rfl (Eff.buildSlice pairE [cutP size n k] rfl rfl rfl rfl rfl rfl rfl) ?_
            rintro _ _ ⟨b39, rfl, -, rfl⟩
            refine ⟨.inr (fun _ h => h.tail.tail), ?_⟩
            refine JM.one (i := 14) (by kernel_rfl) ?_
            refine JMi.eff rfl rfl rfl rfl (m' := 32767) rfl (Eff.append rfl rfl rfl rfl (by first | rfl | omega | (simp; done) | (simp; omega)) (by first | rfl | omega | (simp; done) | (simp; omega)) (by decide) (by simp; omega) (by simp; omega) (fun h => by cases h)) ?_
            rintro _ _ ⟨a40, c40, rfl, rfl⟩
            refine ⟨.inr (fun _ h => h.tail.tail), ?_⟩
            refine JM.take 15 (fun _ h => h.tail.tail) rfl (by kernel_rfl) rfl rfl rfl (m' := 65535) rfl (Pur.assign rfl) ?_
            refine JM.done rfl ?_
            refine J.inBlock ?_
            refine J.region rfl ?_
            refine JO.pur rfl rfl rfl (Pur.add rfl rfl (wr64 (by omega))) ?_
            refine JO.pur rfl rfl rfl (Pur.move rfl) ?_
            refine JO.nil ?_
            exact J.weaken (.cons rfl (by dsimp only; rw [List.range_succ, List.length_append, List.length_map]; rfl) (.cons rfl (congrArg (Value.int .i64) (by first | rfl | (dsimp only; omega))) (.cons rfl rfl (.cons rfl rfl (.cons rfl rfl .nil))))) (fun h s => by dsimp only; rw [List.range_succ, List.map_append, List.map_cons, List.map_nil]; exact SubC.out h s) (ih0 (k + 1, a40, c40) (by dsimp only; omega) (by dsimp only; omega))
          · try simp only [decide_eq_true_eq, decide_eq_false_iff_not, Bool.not_eq_true', Bool.not_eq_false', Bool.and_eq_true, Bool.or_eq_true, Bool.and_eq_false_iff, Bool.or_eq_false_iff, Option.isNone_some, Option.isSome_some, Option.isNone_none, Option.isSome_none, Int.not_lt, Int.not_le, beq_iff_eq, beq_eq_false_iff_ne, bne_iff_ne, ne_eq, Bool.not_not, Decidable.not_not] at h24
            refine J.condF rfl rfl ?_
            refine J.exit rfl rfl ?_
            refine J.seq rfl ?_
            refine J.region rfl ?_
            refine JO.pur rfl rfl rfl (Pur.move rfl) ?_
            refine JO.pur rfl rfl rfl (Pur.assign rfl) ?_
            refine JO.pur rfl rfl rfl (Pur.assign rfl) ?_
            refine JO.nil ?_
            refine J.ret rfl rfl ?_
            obtain rfl : k = n.toNat := by omega
            have hv : cutsV size n = ((List.range n.toNat).map (cutP size n), 0) := by unfold cutsV; rw [if_neg hok]
            refine ⟨_, _, ⟨a6, c6, by rw [hv, List.length_map]; rfl, rfl⟩, rfl, fun h s => ?_⟩
            rw [hv]
            exact SubC.out h s

theorem rCuts_ok {L : List Asn} (size n : Int) :
    CallS Try.prog 13 [.int .i64 size, .int .i64 n].toArray L (fun v M => ∃ a' c', v = .tuple #[.slice a' (cutsV size n).1.length c', .int .i64 (cutsV size n).2] ∧ M = sl pairE a' c' (cutsV size n).1 :: L) := by
  refine CallS.ent ?_
  refine CallS.enter Try.func13 rfl rfl rfl rfl rfl ?_
  refine J.seq rfl ?_
  refine J.region rfl ?_
  refine JO.pur rfl rfl rfl (Pur.assign rfl) ?_
  refine JO.pur rfl rfl rfl (Pur.assign rfl) ?_
  refine JO.nil ?_
  refine J.seq rfl ?_
  refine J.seq rfl ?_
  refine J.region rfl ?_
  refine JO.pur rfl rfl rfl (Pur.move rfl) ?_
  refine JO.pur rfl rfl rfl (Pur.lss rfl rfl) ?_
  refine JO.pur rfl rfl rfl (Pur.move rfl) ?_
  refine JO.splitB 10 rfl (fun h10 => ?_) (fun h10 => ?_)
  · try simp only [decide_eq_true_eq, decide_eq_false_iff_not, Bool.not_eq_true', Bool.not_eq_false', Bool.and_eq_true, Bool.or_eq_true, Bool.and_eq_false_iff, Bool.or_eq_false_iff, Option.isNone_some, Option.isSome_some, Option.isNone_none, Option.isSome_none, Int.not_lt, Int.not_le, beq_iff_eq, beq_eq_false_iff_ne, bne_iff_ne, ne_eq, Bool.not_not, Decidable.not_not] at h10
    refine JO.no rfl rfl rfl ?_
    refine JO.no rfl rfl rfl ?_
    refine JO.pur rfl rfl rfl (Pur.pickT rfl rfl) ?_
    refine JO.pur rfl rfl rfl (Pur.move rfl) ?_
    refine JO.no rfl rfl rfl ?_
    refine JO.no rfl rfl rfl ?_
    refine JO.pur rfl rfl rfl (Pur.pickT rfl rfl) ?_
    refine JO.pur rfl rfl rfl (Pur.move rfl) ?_
    refine JO.no rfl rfl rfl ?_
    refine JO.no rfl rfl rfl ?_
    refine JO.pur rfl rfl rfl (Pur.pickT rfl rfl) ?_
    refine JO.nil ?_
    refine J.condT rfl rfl ?_
    refine J.seq rfl ?_
    refine J.region rfl ?_
    refine JO.pur rfl rfl rfl (Pur.assign rfl) ?_
    refine JO.pur rfl rfl rfl (Pur.assign rfl) ?_
    refine JO.nil ?_
    refine J.ret rfl rfl ?_
    have hbad : badC size n := by unfold badC; omega
    refine ⟨_, _, ⟨none, 0, by rw [cut_bad hbad]; rfl, rfl⟩, rfl, fun h s => ?_⟩
    rw [cut_bad hbad]
    exact sl_nil_new s
  · try simp only [decide_eq_true_eq, decide_eq_false_iff_not, Bool.not_eq_true', Bool.not_eq_false', Bool.and_eq_true, Bool.or_eq_true, Bool.and_eq_false_iff, Bool.or_eq_false_iff, Option.isNone_some, Option.isSome_some, Option.isNone_none, Option.isSome_none, Int.not_lt, Int.not_le, beq_iff_eq, beq_eq_false_iff_ne, bne_iff_ne, ne_eq, Bool.not_not, Decidable.not_not] at h10
    refine JO.pur rfl rfl rfl (Pur.move rfl) ?_
    refine JO.pur rfl rfl rfl (Pur.gtr rfl rfl) ?_
    refine JO.pur rfl rfl rfl (Pur.pickF rfl rfl) ?_
    refine JO.pur rfl rfl rfl (Pur.move rfl) ?_
    refine JO.splitB 14 rfl (fun h14 => ?_) (fun h14 => ?_)
    · try simp only [decide_eq_true_eq, decide_eq_false_iff_not, Bool.not_eq_true', Bool.not_eq_false', Bool.and_eq_true, Bool.or_eq_true, Bool.and_eq_false_iff, Bool.or_eq_false_iff, Option.isNone_some, Option.isSome_some, Option.isNone_none, Option.isSome_none, Int.not_lt, Int.not_le, beq_iff_eq, beq_eq_false_iff_ne, bne_iff_ne, ne_eq, Bool.not_not, Decidable.not_not] at h14
      refine JO.no rfl rfl rfl ?_
      refine JO.no rfl rfl rfl ?_
      refine JO.pur rfl rfl rfl (Pur.pickT rfl rfl) ?_
      refine JO.pur rfl rfl rfl (Pur.move rfl) ?_
      refine JO.no rfl rfl rfl ?_
      refine JO.no rfl rfl rfl ?_
      refine JO.pur rfl rfl rfl (Pur.pickT rfl rfl) ?_
      refine JO.nil ?_
      refine J.condT rfl rfl ?_
      refine J.seq rfl ?_
      refine J.region rfl ?_
      refine JO.pur rfl rfl rfl (Pur.assign rfl) ?_
      refine JO.pur rfl rfl rfl (Pur.assign rfl) ?_
      refine JO.nil ?_
      refine J.ret rfl rfl ?_
      have hbad : badC size n := by unfold badC; omega
      refine ⟨_, _, ⟨none, 0, by rw [cut_bad hbad]; rfl, rfl⟩, rfl, fun h s => ?_⟩
      rw [cut_bad hbad]
      exact sl_nil_new s
    · try simp only [decide_eq_true_eq, decide_eq_false_iff_not, Bool.not_eq_true', Bool.not_eq_false', Bool.and_eq_true, Bool.or_eq_true, Bool.and_eq_false_iff, Bool.or_eq_false_iff, Option.isNone_some, Option.isSome_some, Option.isNone_none, Option.isSome_none, Int.not_lt, Int.not_le, beq_iff_eq, beq_eq_false_iff_ne, bne_iff_ne, ne_eq, Bool.not_not, Decidable.not_not] at h14
      refine JO.pur rfl rfl rfl (Pur.move rfl) ?_
      refine JO.pur rfl rfl rfl (Pur.lss rfl rfl) ?_
      refine JO.pur rfl rfl rfl (Pur.pickF rfl rfl) ?_
      refine JO.pur rfl rfl rfl (Pur.move rfl) ?_
      refine JO.splitB 18 rfl (fun h18 => ?_) (fun h18 => ?_)
      · try simp only [decide_eq_true_eq, decide_eq_false_iff_not, Bool.not_eq_true', Bool.not_eq_false', Bool.and_eq_true, Bool.or_eq_true, Bool.and_eq_false_iff, Bool.or_eq_false_iff, Option.isNone_some, Option.isSome_some, Option.isNone_none, Option.isSome_none, Int.not_lt, Int.not_le, beq_iff_eq, beq_eq_false_iff_ne, bne_iff_ne, ne_eq, Bool.not_not, Decidable.not_not] at h18
        refine JO.no rfl rfl rfl ?_
        refine JO.no rfl rfl rfl ?_
        refine JO.pur rfl rfl rfl (Pur.pickT rfl rfl) ?_
        refine JO.nil ?_
        refine J.condT rfl rfl ?_
        refine J.seq rfl ?_
        refine J.region rfl ?_
        refine JO.pur rfl rfl rfl (Pur.assign rfl) ?_
        refine JO.pur rfl rfl rfl (Pur.assign rfl) ?_
        refine JO.nil ?_
        refine J.ret rfl rfl ?_
        have hbad : badC size n := by unfold badC; omega
        refine ⟨_, _, ⟨none, 0, by rw [cut_bad hbad]; rfl, rfl⟩, rfl, fun h s => ?_⟩
        rw [cut_bad hbad]
        exact sl_nil_new s
      · try simp only [decide_eq_true_eq, decide_eq_false_iff_not, Bool.not_eq_true', Bool.not_eq_false', Bool.and_eq_true, Bool.or_eq_true, Bool.and_eq_false_iff, Bool.or_eq_false_iff, Option.isNone_some, Option.isSome_some, Option.isNone_none, Option.isSome_none, Int.not_lt, Int.not_le, beq_iff_eq, beq_eq_false_iff_ne, bne_iff_ne, ne_eq, Bool.not_not, Decidable.not_not] at h18
        refine JO.pur rfl rfl rfl (Pur.move rfl) ?_
        refine JO.pur rfl rfl rfl (Pur.gtr rfl rfl) ?_
        refine JO.pur rfl rfl rfl (Pur.pickF rfl rfl) ?_
        refine JO.nil ?_
        refine J.splitB 21 rfl (fun h21 => ?_) (fun h21 => ?_)
        · try simp only [decide_eq_true_eq, decide_eq_false_iff_not, Bool.not_eq_true', Bool.not_eq_false', Bool.and_eq_true, Bool.or_eq_true, Bool.and_eq_false_iff, Bool.or_eq_false_iff, Option.isNone_some, Option.isSome_some, Option.isNone_none, Option.isSome_none, Int.not_lt, Int.not_le, beq_iff_eq, beq_eq_false_iff_ne, bne_iff_ne, ne_eq, Bool.not_not, Decidable.not_not] at h21
          refine J.condT rfl rfl ?_
          refine J.seq rfl ?_
          refine J.region rfl ?_
          refine JO.pur rfl rfl rfl (Pur.assign rfl) ?_
          refine JO.pur rfl rfl rfl (Pur.assign rfl) ?_
          refine JO.nil ?_
          refine J.ret rfl rfl ?_
          have hbad : badC size n := by unfold badC; omega
          refine ⟨_, _, ⟨none, 0, by rw [cut_bad hbad]; rfl, rfl⟩, rfl, fun h s => ?_⟩
          rw [cut_bad hbad]
          exact sl_nil_new s
        · try simp only [decide_eq_true_eq, decide_eq_false_iff_not, Bool.not_eq_true', Bool.not_eq_false', Bool.and_eq_true, Bool.or_eq_true, Bool.and_eq_false_iff, Bool.or_eq_false_iff, Option.isNone_some, Option.isSome_some, Option.isNone_none, Option.isSome_none, Int.not_lt, Int.not_le, beq_iff_eq, beq_eq_false_iff_ne, bne_iff_ne, ne_eq, Bool.not_not, Decidable.not_not] at h21
          refine J.condF rfl rfl ?_
          refine J.skip rfl ?_
          refine J.seq rfl ?_
          have hok : ¬ badC size n := by unfold badC; omega
          refine J.region rfl ?_
          refine JO.pur rfl rfl rfl (Pur.assign rfl) ?_
          refine JO.nil ?_
          refine J.seq rfl ?_
          refine J.seq rfl ?_
          refine J.region rfl ?_
          refine JO.pur rfl rfl rfl (Pur.assign rfl) ?_
          refine JO.nil ?_
          refine J.block rfl ?_
          refine J.loopF (ι := Nat × Option Addr × Nat) (fun q => (q.1 : Int) ≤ n) (fun q => [(6, .slice q.2.1 (List.range q.1).length q.2.2), (7, .int .i64 (q.1 : Int))]) [(0, _), (1, _)] (fun q => sl pairE q.2.1 q.2.2 ((List.range q.1).map (cutP size n)) :: L) (fun q => n.toNat - q.1) (0, none, 0) rfl (.cons rfl rfl (.cons rfl rfl .nil)) (.cons rfl rfl (.cons rfl rfl .nil)) (fun h s => by dsimp only; rw [List.range_zero, List.map_nil]; exact SubC.out h (sl_nil_new (E := pairE) s)) (by show ((0 : Nat) : Int) ≤ n; omega) ?_
          rintro ⟨k, a6, c6⟩ hk ih0
          try dsimp only
          dsimp only at hk
          have hrl : (List.range k).length = k := List.length_range
          have m1 := cut_mul hok (k := k) (by omega)
          have m2 := cut_mul hok (k := k + 1) (by omega)
          have q1 := cut_nonneg hok (k := k) (by omega)
          have q2 := cut_nonneg hok (k := k + 1) (by omega)
          rw [show (((k + 1 : Nat) : Nat) : Int) = (k : Int) + 1 by omega] at m2
          unfold cutA at q1 q2
          rw [show (((k + 1 : Nat) : Nat) : Int) = (k : Int) + 1 by omega] at q2
          refine J.seq rfl ?_
          refine J.seq rfl ?_
          refine J.region rfl ?_
          refine JO.pur rfl rfl rfl (Pur.move rfl) ?_
          refine JO.pur rfl rfl rfl (Pur.move rfl) ?_
          refine JO.pur rfl rfl rfl (Pur.lss rfl rfl) ?_
          refine JO.nil ?_
          refine J.splitB 24 rfl (fun h24 => ?_) (fun h24 => ?_)
          · try simp only [decide_eq_true_eq, decide_eq_false_iff_not, Bool.not_eq_true', Bool.not_eq_false', Bool.and_eq_true, Bool.or_eq_true, Bool.and_eq_false_iff, Bool.or_eq_false_iff, Option.isNone_some, Option.isSome_some, Option.isNone_none, Option.isSome_none, Int.not_lt, Int.not_le, beq_iff_eq, beq_eq_false_iff_ne, bne_iff_ne, ne_eq, Bool.not_not, Decidable.not_not] at h24
            refine J.condT rfl rfl ?_
            refine J.skip rfl ?_
            refine J.seq rfl ?_
            refine J.block rfl ?_
            refine J.mask1 (n := 16) [] rfl Try.mixed rfl (by kernel_rfl) ?_
            refine JM.take 0 (fun _ h => h.tail) rfl (by kernel_rfl) rfl rfl rfl (m' := 1) rfl (Pur.move rfl) ?_
            refine JM.take 1 (fun _ h => h.tail) rfl (by kernel_rfl) rfl rfl rfl (m' := 3) rfl (Pur.move rfl) ?_
            refine JM.take 2 (fun _ h => h.tail) rfl (by kernel_rfl) rfl rfl rfl (m' := 7) rfl (Pur.move rfl) ?_
            refine JM.take 3 (fun _ h => h.tail) rfl (by kernel_rfl) rfl rfl rfl (m' := 15) rfl (Pur.mul rfl rfl (wr64 (by omega))) ?_
            refine JM.take 4 (fun _ h => h.tail) rfl (by kernel_rfl) rfl rfl rfl (m' := 31) rfl (Pur.move rfl) ?_
            refine JM.take 5 (fun _ h => h.tail) rfl (by kernel_rfl) rfl rfl rfl (m' := 63) rfl (Pur.quo rfl rfl (by omega)) ?_
            refine JM.setv (u' := .int .i64 (Int.tdiv ((k : Int) * size) n)) 32 rfl (congrArg (Value.int .i64) (wr64 (by omega))) ?_
            refine JM.take 6 (fun _ h => h.tail) rfl (by kernel_rfl) rfl rfl rfl (m' := 127) rfl (Pur.move rfl) ?_
            refine JM.take 7 (fun _ h => h.tail) rfl (by kernel_rfl) rfl rfl rfl (m' := 255) rfl (Pur.add rfl rfl (wr64 (by omega))) ?_
            refine JM.take 8 (fun _ h => h.tail) rfl (by kernel_rfl) rfl rfl rfl (m' := 511) rfl (Pur.move rfl) ?_
            refine JM.take 9 (fun _ h => h.tail) rfl (by kernel_rfl) rfl rfl rfl (m' := 1023) rfl (Pur.mul rfl rfl (wr64 (by omega))) ?_
            refine JM.take 10 (fun _ h => h.tail) rfl (by kernel_rfl) rfl rfl rfl (m' := 2047) rfl (Pur.move rfl) ?_
            refine JM.take 11 (fun _ h => h.tail) rfl (by kernel_rfl) rfl rfl rfl (m' := 4095) rfl (Pur.quo rfl rfl (by omega)) ?_
            refine JM.setv (u' := .int .i64 (Int.tdiv (((k : Int) + 1) * size) n)) 38 rfl (congrArg (Value.int .i64) (wr64 (by omega))) ?_
            refine JM.take 12 (fun _ h => h.tail) rfl (by kernel_rfl) rfl rfl rfl (m' := 8191) rfl (Pur.build (cs := [_, _]) rfl rfl) ?_
            refine JM.one (i := 13) (by kernel_rfl) ?_
            refine JMi.eff rfl rfl rfl rfl (m' := 16383) rfl (Eff.buildSlice pairE [cutP size n k] rfl rfl rfl rfl rfl rfl rfl) ?_
            rintro _ _ ⟨b40, rfl, -, rfl⟩
            refine ⟨.inr (fun _ h => h.tail.tail), ?_⟩
            refine JM.one (i := 14) (by kernel_rfl) ?_
            refine JMi.eff rfl rfl rfl rfl (m' := 32767) rfl (Eff.append rfl rfl rfl rfl (by first | rfl | omega | (simp; done) | (simp; omega)) (by first | rfl | omega | (simp; done) | (simp; omega)) (by decide) (by simp; omega) (by simp; omega) (fun h => by cases h)) ?_
            rintro _ _ ⟨a41, c41, rfl, rfl⟩
            refine ⟨.inr (fun _ h => h.tail.tail), ?_⟩
            refine JM.take 15 (fun _ h => h.tail.tail) rfl (by kernel_rfl) rfl rfl rfl (m' := 65535) rfl (Pur.assign rfl) ?_
            refine JM.done rfl ?_
            refine J.inBlock ?_
            refine J.region rfl ?_
            refine JO.pur rfl rfl rfl (Pur.move rfl) ?_
            refine JO.pur rfl rfl rfl (Pur.add rfl rfl (wr64 (by omega))) ?_
            refine JO.pur rfl rfl rfl (Pur.assign rfl) ?_
            refine JO.nil ?_
            exact J.weaken (.cons rfl (by dsimp only; rw [List.range_succ, List.length_append, List.length_map]; rfl) (.cons rfl (congrArg (Value.int .i64) (by first | rfl | (dsimp only; omega))) (.cons rfl rfl (.cons rfl rfl .nil)))) (fun h s => by dsimp only; rw [List.range_succ, List.map_append, List.map_cons, List.map_nil]; exact SubC.out h s) (ih0 (k + 1, a41, c41) (by dsimp only; omega) (by dsimp only; omega))
          · try simp only [decide_eq_true_eq, decide_eq_false_iff_not, Bool.not_eq_true', Bool.not_eq_false', Bool.and_eq_true, Bool.or_eq_true, Bool.and_eq_false_iff, Bool.or_eq_false_iff, Option.isNone_some, Option.isSome_some, Option.isNone_none, Option.isSome_none, Int.not_lt, Int.not_le, beq_iff_eq, beq_eq_false_iff_ne, bne_iff_ne, ne_eq, Bool.not_not, Decidable.not_not] at h24
            refine J.condF rfl rfl ?_
            refine J.exit rfl rfl ?_
            refine J.seq rfl ?_
            refine J.region rfl ?_
            refine JO.pur rfl rfl rfl (Pur.move rfl) ?_
            refine JO.pur rfl rfl rfl (Pur.assign rfl) ?_
            refine JO.pur rfl rfl rfl (Pur.assign rfl) ?_
            refine JO.nil ?_
            refine J.ret rfl rfl ?_
            obtain rfl : k = n.toNat := by omega
            have hv : cutsV size n = ((List.range n.toNat).map (cutP size n), 0) := by unfold cutsV; rw [if_neg hok]
            refine ⟨_, _, ⟨a6, c6, by rw [hv, List.length_map]; rfl, rfl⟩, rfl, fun h s => ?_⟩
            rw [hv]
            exact SubC.out h s

end Go.Proofs.Ytgbckamaenapeaa
