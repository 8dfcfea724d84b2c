/-
  A part of the proof of the claim that this folder bears.
-/
import Derived.Test.YtgbckamaenapeaaPAK
import Derived.Test.YtgbckamaenapeaaPAF
import Derived.Test.YtgbckamaenapeaaPAA
/- The text HBeg. -/
set_option linter.unusedVariables false
set_option linter.unusedSimpArgs false
set_option maxRecDepth 10000
namespace Go.Proofs.Ytgbckamaenapeaa
open Go Go.KK Hf

structure Ac where
  d : Int
  a : Int
  b : Int
  y : Hdr
instance : Inhabited Ac := ⟨⟨0, 0, 0, ⟨none, 0, 0⟩⟩⟩
def acE : Enc Ac := ⟨57, 4, fun x => [.int .i64 x.d, .int .i64 x.a, .int .i64 x.b, .slice x.y.a x.y.n x.y.cap], fun _ => rfl, fun s v h => by
  simp only [List.mem_cons, List.not_mem_nil, or_false] at h; rcases h with rfl | rfl | rfl | rfl <;> rfl⟩
def manyV (acs : List Ac) : Bool := acs.any (fun x => decide (1000 < x.y.n)) || decide (120 < acs.length)
theorem Many_ok {L : List Asn} {a : Option Addr} {n cap : Nat} {acs : List Ac} [SlIn acE L a acs] (hn : n = acs.length) (hmx : acs.length ≤ 9223372036854775807) :
    CallS Try.prog 30 [.slice a n cap].toArray L (fun v M => v = .bool (manyV acs) ∧ M = L) := by
  subst hn
  refine CallS.enter Try.func30 rfl rfl rfl rfl rfl ?_
  refine J.seq rfl ?_
  refine J.region rfl ?_
  refine JO.pur rfl rfl rfl (Pur.assign rfl) ?_
  refine JO.nil ?_
  refine J.seq rfl ?_
  refine J.seq rfl ?_
  refine J.region rfl ?_
  refine JO.pur rfl rfl rfl (Pur.assign rfl) ?_
  refine JO.nil ?_
  refine J.block rfl ?_
  refine J.loopF (ι := Nat) (fun q => q ≤ acs.length ∧ ∀ j x, j < q → acs[j]? = some x → ¬ 1000 < x.y.n) (fun q => [(3, .int .i64 (q : Int))]) [(0, _)] (fun q => L) (fun q => acs.length - q) 0 rfl (.cons rfl rfl .nil) (.cons rfl rfl .nil) (by first | exact fun _ h => h | exact SubC.out | (dsimp only; exact SubC.out)) ⟨Nat.zero_le _, fun j x hj => by omega⟩ ?_
  rintro k ⟨hk, hno⟩ ih0
  try dsimp only
  refine J.seq rfl ?_
  refine J.seq rfl ?_
  refine J.region rfl ?_
  refine JO.pur rfl rfl rfl (Pur.move rfl) ?_
  refine JO.pur rfl rfl rfl (Pur.move rfl) ?_
  refine JO.pur rfl rfl rfl (Pur.len rfl) ?_
  refine JO.pur rfl rfl rfl (Pur.lss rfl rfl) ?_
  refine JO.nil ?_
  refine J.splitB 7 rfl (fun h7 => ?_) (fun h7 => ?_)
  · try simp only [decide_eq_true_eq, decide_eq_false_iff_not, Bool.not_eq_true', Bool.not_eq_false', Bool.and_eq_true, Bool.or_eq_true, Bool.and_eq_false_iff, Bool.or_eq_false_iff, Option.isNone_some, Option.isSome_some, Option.isNone_none, Option.isSome_none, Int.not_lt, Int.not_le, beq_iff_eq, beq_eq_false_iff_ne, bne_iff_ne, ne_eq, Bool.not_not, Decidable.not_not] at h7
    have hkl : k < acs.length := by omega
    have hx := List.getElem?_eq_getElem hkl
    refine J.condT rfl rfl ?_
    refine J.skip rfl ?_
    refine J.seq rfl ?_
    refine J.block rfl ?_
    refine J.seq rfl ?_
    refine J.region rfl ?_
    refine JO.pur rfl rfl rfl (Pur.move rfl) ?_
    refine JO.pur rfl rfl rfl (Pur.move rfl) ?_
    refine JO.pur rfl rfl rfl (Pur.idx rfl rfl rfl (by first | rfl | (simp; done) | omega) rfl (by omega)) ?_
    refine JO.pur rfl rfl rfl (Pur.fieldAddr rfl) ?_
    refine JO.pur rfl rfl rfl (Pur.load rfl (CellIn.el rfl hx rfl)) ?_
    refine JO.setv (u' := .slice acs[k].y.a acs[k].y.n acs[k].y.cap) 14 rfl rfl ?_
    refine JO.pur rfl rfl rfl (Pur.len rfl) ?_
    refine JO.pur rfl rfl rfl (Pur.gtr rfl rfl) ?_
    refine JO.nil ?_
    refine J.splitB 16 rfl (fun h16 => ?_) (fun h16 => ?_)
    · try simp only [decide_eq_true_eq, decide_eq_false_iff_not, Bool.not_eq_true', Bool.not_eq_false', Bool.and_eq_true, Bool.or_eq_true, Bool.and_eq_false_iff, Bool.or_eq_false_iff, Option.isNone_some, Option.isSome_some, Option.isNone_none, Option.isSome_none, Int.not_lt, Int.not_le, beq_iff_eq, beq_eq_false_iff_ne, bne_iff_ne, ne_eq, Bool.not_not, Decidable.not_not] at h16
      refine J.condT rfl rfl ?_
      refine J.seq rfl ?_
      refine J.region rfl ?_
      refine JO.pur rfl rfl rfl (Pur.assign rfl) ?_
      refine JO.nil ?_
      refine J.ret rfl rfl ?_
      have hv : manyV acs = true := by unfold manyV; rw [List.any_eq_true.2 ⟨acs[k], List.getElem_mem hkl, decide_eq_true (by omega)⟩]; rfl
      exact ⟨by rw [hv]; rfl, rfl⟩
    · try simp only [decide_eq_true_eq, decide_eq_false_iff_not, Bool.not_eq_true', Bool.not_eq_false', Bool.and_eq_true, Bool.or_eq_true, Bool.and_eq_false_iff, Bool.or_eq_false_iff, Option.isNone_some, Option.isSome_some, Option.isNone_none, Option.isSome_none, Int.not_lt, Int.not_le, beq_iff_eq, beq_eq_false_iff_ne, bne_iff_ne, ne_eq, Bool.not_not, Decidable.not_not] at h16
      have hno2 : ∀ j x, j < k + 1 → acs[j]? = some x → ¬ 1000 < x.y.n := fun j x hj hx2 => by
        rcases Nat.lt_or_ge j k with h | h
        · exact hno j x h hx2
        · rw [show j = k by omega, hx] at hx2; cases hx2; omega
      refine J.condF rfl rfl ?_
      refine J.skip rfl ?_
      refine J.inBlock ?_
      refine J.region rfl ?_
      refine JO.pur rfl rfl rfl (Pur.move rfl) ?_
      refine JO.pur rfl rfl rfl (Pur.add rfl rfl (wr64 (by omega))) ?_
      refine JO.pur rfl rfl rfl (Pur.assign rfl) ?_
      refine JO.nil ?_
      exact J.weaken (.cons rfl (congrArg (Value.int .i64) (by first | rfl | (dsimp only; omega))) (.cons rfl rfl .nil)) (by first | exact fun _ h => h | exact SubC.out | (dsimp only; exact SubC.out)) (ih0 (k + 1) ⟨(by omega), hno2⟩ (by omega))
  · try simp only [decide_eq_true_eq, decide_eq_false_iff_not, Bool.not_eq_true', Bool.not_eq_false', Bool.and_eq_true, Bool.or_eq_true, Bool.and_eq_false_iff, Bool.or_eq_false_iff, Option.isNone_some, Option.isSome_some, Option.isNone_none, Option.isSome_none, Int.not_lt, Int.not_le, beq_iff_eq, beq_eq_false_iff_ne, bne_iff_ne, ne_eq, Bool.not_not, Decidable.not_not] at h7
    refine J.condF rfl rfl ?_
    refine J.exit rfl rfl ?_
    refine J.seq rfl ?_
    refine J.region rfl ?_
    refine JO.pur rfl rfl rfl (Pur.move rfl) ?_
    refine JO.pur rfl rfl rfl (Pur.len rfl) ?_
    refine JO.pur rfl rfl rfl (Pur.gtr rfl rfl) ?_
    refine JO.pur rfl rfl rfl (Pur.assign rfl) ?_
    refine JO.nil ?_
    refine J.ret rfl rfl ?_
    have hv : acs.any (fun x => decide (1000 < x.y.n)) = false := by
      rw [List.any_eq_false]
      intro x hx
      obtain ⟨j, hj, rfl⟩ := List.getElem_of_mem hx
      simpa using hno j _ (by omega) (List.getElem?_eq_getElem hj)
    refine ⟨congrArg Value.bool ?_, rfl⟩
    unfold manyV
    rw [hv, Bool.false_or]
    exact decide_eq_decide.2 (by omega)

theorem Begin_ok {L : List Asn} {b : Option Addr} {m cq : Nat} {ys : List UInt8} [SlIn byE L b ys] (hm : m = ys.length) (hb : ys.length ≤ 400) (hnil : b = none → m = 0 ∧ cq = 0) :
    CallS Try.prog 31 [.slice b m cq].toArray L (fun v M => ∃ p q pr, v = .tuple #[.pointer (some ⟨pr, 0, none⟩), .bool true] ∧ M = FA p (newF ys) :: RA q (newF ys) :: blk pr (.cells #[.pointer (some ⟨p, 0, none⟩), .pointer (some ⟨q, 0, none⟩)] 68) :: L) := by
  refine CallS.ent ?_
  refine CallS.enter Try.func31 rfl rfl rfl rfl rfl ?_
  refine J.seq rfl ?_
  refine J.region rfl ?_
  refine JO.pur rfl rfl rfl (Pur.assign rfl) ?_
  refine JO.pur rfl rfl rfl (Pur.assign rfl) ?_
  refine JO.nil ?_
  refine J.seq rfl ?_
  refine J.region rfl ?_
  refine JO.pur rfl rfl rfl (Pur.move rfl) ?_
  refine JO.eff rfl rfl rfl (Eff.call rfl (New_ok (ys := ys) hm hb hnil)) ?_
  rintro _ _ ⟨p, rfl, rfl⟩
  refine JO.pur rfl rfl rfl (Pur.move rfl) ?_
  refine JO.pur rfl rfl rfl (Pur.extract rfl rfl) ?_
  refine JO.pur rfl rfl rfl (Pur.extract rfl rfl) ?_
  refine JO.pur rfl rfl rfl (Pur.assign rfl) ?_
  refine JO.pur rfl rfl rfl (Pur.assign rfl) ?_
  refine JO.nil ?_
  refine J.seq rfl ?_
  refine J.region rfl ?_
  refine JO.pur rfl rfl rfl (Pur.move rfl) ?_
  refine JO.eff rfl rfl rfl (Eff.call rfl (rNew_ok (ys := ys) hm hb hnil)) ?_
  rintro _ _ ⟨q, rfl, rfl⟩
  refine JO.pur rfl rfl rfl (Pur.move rfl) ?_
  refine JO.pur rfl rfl rfl (Pur.extract rfl rfl) ?_
  refine JO.pur rfl rfl rfl (Pur.extract rfl rfl) ?_
  refine JO.pur rfl rfl rfl (Pur.assign rfl) ?_
  refine JO.pur rfl rfl rfl (Pur.assign rfl) ?_
  refine JO.nil ?_
  refine J.seq rfl ?_
  refine J.seq rfl ?_
  refine J.region rfl ?_
  refine JO.pur rfl rfl rfl (Pur.move rfl) ?_
  refine JO.pur rfl rfl rfl (Pur.move rfl) ?_
  refine JO.pur rfl rfl rfl (Pur.neqI rfl rfl) ?_
  refine JO.setv (u' := .bool false) 20 rfl (congrArg Value.bool (rfl)) ?_
  refine JO.pur rfl rfl rfl (Pur.move rfl) ?_
  refine JO.pur rfl rfl rfl (Pur.move rfl) ?_
  refine JO.pur rfl rfl rfl (Pur.eqlPtrNil rfl) ?_
  refine JO.setv (u' := .bool false) 23 rfl (congrArg Value.bool (rfl)) ?_
  refine JO.pur rfl rfl rfl (Pur.move rfl) ?_
  refine JO.pur rfl rfl rfl (Pur.eqlPtrNil rfl) ?_
  refine JO.setv (u' := .bool false) 25 rfl (congrArg Value.bool (rfl)) ?_
  refine JO.pur rfl rfl rfl (Pur.neqB rfl rfl) ?_
  refine JO.setv (u' := .bool false) 26 rfl (congrArg Value.bool (rfl)) ?_
  refine JO.pur rfl rfl rfl (Pur.pickF rfl rfl) ?_
  refine JO.nil ?_
  refine J.condF rfl rfl ?_
  refine J.skip rfl ?_
  refine J.seq rfl ?_
  refine J.seq rfl ?_
  refine J.region rfl ?_
  refine JO.pur rfl rfl rfl (Pur.move rfl) ?_
  refine JO.pur rfl rfl rfl (Pur.eqlPtrNil rfl) ?_
  refine JO.setv (u' := .bool false) 29 rfl (congrArg Value.bool (rfl)) ?_
  refine JO.nil ?_
  refine J.condF rfl rfl ?_
  refine J.skip rfl ?_
  refine J.seq rfl ?_
  refine J.region rfl ?_
  refine JO.pur rfl rfl rfl (Pur.move rfl) ?_
  refine JO.setv (u' := .pointer (some ⟨p, 0, none⟩)) 30 rfl rfl ?_
  refine JO.pur rfl rfl rfl (Pur.move rfl) ?_
  refine JO.setv (u' := .pointer (some ⟨q, 0, none⟩)) 31 rfl rfl ?_
  refine JO.pur rfl rfl rfl (Pur.build (cs := [_, _]) rfl rfl) ?_
  refine JO.eff rfl rfl rfl (Eff.box (cs := [_, _]) rfl rfl) ?_
  rintro _ _ ⟨b33, rfl, rfl⟩
  refine JO.pur rfl rfl rfl (Pur.assign rfl) ?_
  refine JO.pur rfl rfl rfl (Pur.assign rfl) ?_
  refine JO.nil ?_
  refine J.ret rfl rfl ?_
  refine ⟨_, _, ⟨p, q, b33, rfl, rfl⟩, rfl, SubC.out⟩

theorem Begin_big {L : List Asn} {b : Option Addr} {m cq : Nat} {ys : List UInt8} [SlIn byE L b ys] (hm : m = ys.length) (hb : ¬ ys.length ≤ 400) :
    CallS Try.prog 31 [.slice b m cq].toArray L (fun v M => v = .tuple #[.pointer none, .bool true] ∧ M = L) := by
  refine CallS.ent ?_
  refine CallS.enter Try.func31 rfl rfl rfl rfl rfl ?_
  refine J.seq rfl ?_
  refine J.region rfl ?_
  refine JO.pur rfl rfl rfl (Pur.assign rfl) ?_
  refine JO.pur rfl rfl rfl (Pur.assign rfl) ?_
  refine JO.nil ?_
  refine J.seq rfl ?_
  refine J.region rfl ?_
  refine JO.pur rfl rfl rfl (Pur.move rfl) ?_
  refine JO.eff rfl rfl rfl (Eff.call rfl (New_big (ys := ys) hm hb)) ?_
  rintro _ _ ⟨rfl, rfl⟩
  refine JO.pur rfl rfl rfl (Pur.move rfl) ?_
  refine JO.pur rfl rfl rfl (Pur.extract rfl rfl) ?_
  refine JO.pur rfl rfl rfl (Pur.extract rfl rfl) ?_
  refine JO.pur rfl rfl rfl (Pur.assign rfl) ?_
  refine JO.pur rfl rfl rfl (Pur.assign rfl) ?_
  refine JO.nil ?_
  refine J.seq rfl ?_
  refine J.region rfl ?_
  refine JO.pur rfl rfl rfl (Pur.move rfl) ?_
  refine JO.eff rfl rfl rfl (Eff.call rfl (rNew_big (ys := ys) hm hb)) ?_
  rintro _ _ ⟨rfl, rfl⟩
  refine JO.pur rfl rfl rfl (Pur.move rfl) ?_
  refine JO.pur rfl rfl rfl (Pur.extract rfl rfl) ?_
  refine JO.pur rfl rfl rfl (Pur.extract rfl rfl) ?_
  refine JO.pur rfl rfl rfl (Pur.assign rfl) ?_
  refine JO.pur rfl rfl rfl (Pur.assign rfl) ?_
  refine JO.nil ?_
  refine J.seq rfl ?_
  refine J.seq rfl ?_
  refine J.region rfl ?_
  refine JO.pur rfl rfl rfl (Pur.move rfl) ?_
  refine JO.pur rfl rfl rfl (Pur.move rfl) ?_
  refine JO.pur rfl rfl rfl (Pur.neqI rfl rfl) ?_
  refine JO.setv (u' := .bool false) 20 rfl (congrArg Value.bool (rfl)) ?_
  refine JO.pur rfl rfl rfl (Pur.move rfl) ?_
  refine JO.pur rfl rfl rfl (Pur.move rfl) ?_
  refine JO.pur rfl rfl rfl (Pur.eqlPtrNil rfl) ?_
  refine JO.setv (u' := .bool true) 23 rfl (congrArg Value.bool (rfl)) ?_
  refine JO.pur rfl rfl rfl (Pur.move rfl) ?_
  refine JO.pur rfl rfl rfl (Pur.eqlPtrNil rfl) ?_
  refine JO.setv (u' := .bool true) 25 rfl (congrArg Value.bool (rfl)) ?_
  refine JO.pur rfl rfl rfl (Pur.neqB rfl rfl) ?_
  refine JO.setv (u' := .bool false) 26 rfl (congrArg Value.bool (rfl)) ?_
  refine JO.pur rfl rfl rfl (Pur.pickF rfl rfl) ?_
  refine JO.nil ?_
  refine J.condF rfl rfl ?_
  refine J.skip rfl ?_
  refine J.seq rfl ?_
  refine J.seq rfl ?_
  refine J.region rfl ?_
  refine JO.pur rfl rfl rfl (Pur.move rfl) ?_
  refine JO.pur rfl rfl rfl (Pur.eqlPtrNil rfl) ?_
  refine JO.setv (u' := .bool true) 29 rfl (congrArg Value.bool (rfl)) ?_
  refine JO.nil ?_
  refine J.condT rfl rfl ?_
  refine J.seq rfl ?_
  refine J.region rfl ?_
  refine JO.pur rfl rfl rfl (Pur.assign rfl) ?_
  refine JO.pur rfl rfl rfl (Pur.assign rfl) ?_
  refine JO.nil ?_
  refine J.ret rfl rfl ?_
  exact ⟨_, _, ⟨rfl, rfl⟩, rfl, SubC.out⟩

end Go.Proofs.Ytgbckamaenapeaa

/- The text HApp. -/
set_option linter.unusedVariables false
set_option linter.unusedSimpArgs false
set_option maxRecDepth 10000
namespace Go.Proofs.Ytgbckamaenapeaa
open Go Go.KK Hf

def keysS (m : List (Int × Value)) (S : List Nat) : List Int := S.reverse.map (fun j => ((m[j]?).map (·.1)).getD 0)
theorem keysS_cons {m : List (Int × Value)} {S : List Nat} {j : Nat} {k : Int} {x : Value} (h : m[j]? = some (k, x)) : keysS m (j :: S) = keysS m S ++ [k] := by
  unfold keysS; rw [List.reverse_cons, List.map_append, List.map_cons, List.map_nil, h]; rfl
theorem keysS_len {m : List (Int × Value)} {S : List Nat} : (keysS m S).length = S.length := by simp [keysS]
theorem keysS_perm {m : List (Int × Value)} {S : List Nat} (hn : S.Nodup) (h1 : ∀ j, j < m.length → j ∈ S) (h2 : ∀ j ∈ S, j < m.length) : (keysS m S).Perm (m.map (·.1)) := by
  have hp : S.Perm (List.range m.length) := (List.perm_ext_iff_of_nodup hn List.nodup_range).2 fun j => ⟨fun h => List.mem_range.2 (h2 j h), fun h => h1 j (List.mem_range.1 h)⟩
  have e : m.map (·.1) = (List.range m.length).map (fun j => ((m[j]?).map (·.1)).getD 0) := by
    apply List.ext_getElem (by simp)
    intro i hi1 hi2
    simp at hi1
    simp [hi1]
  rw [e]
  exact ((List.reverse_perm S).trans hp).map _
def SB (b : Nat) (ks : List Int) : Asn := fun h => ∃ q : Option Addr × Nat, star [blk b (.cells #[.slice q.1 ks.length q.2] 34), sl intE q.1 q.2 ks] h
theorem SB_mk {b : Nat} {ks : List Int} {a : Option Addr} {c : Nat} {L : List Asn} {h : Hp} (s : Sat h (blk b (.cells #[.slice a ks.length c] 34) :: sl intE a c ks :: L)) : Sat h (SB b ks :: L) := by
  have h1 := (Sat.star (M := [blk b (.cells #[.slice a ks.length c] 34), sl intE a c ks]) (L := L)).2 s
  exact h1.cons_imp (fun k hk => ⟨(a, c), hk⟩) (fun _ h => h)
abbrev KI := Option (Nat × List Nat)
def itA (mb : Nat) (m : List (Int × Value)) : KI → Asn
  | none => mp intK mb m
  | some (i, S) => mpIt intK mb i m S
def ksI (m : List (Int × Value)) : KI → List Int
  | none => []
  | some (_, S) => keysS m S
theorem appseq_ok {L : List Asn} {bx mb : Nat} {m : List (Int × Value)} (hml : m.length ≤ 100000) :
    CallS Try.prog 73 [.slice none 0 0, .func (.func 70) #[] #[.pointer (some ⟨bx, 0, none⟩)]].toArray (blk bx (.cells #[.map (some mb)] 60) :: mp intK mb m :: L) (fun v M => ∃ a' c' ks, v = .slice a' ks.length c' ∧ ks.Perm (m.map (·.1)) ∧ M = sl intE a' c' ks :: mp intK mb m :: L) := by
  refine CallS.ent ?_
  refine CallS.enter Try.func73 rfl rfl rfl rfl rfl ?_
  refine J.seq rfl ?_
  refine J.region rfl ?_
  refine JO.eff rfl rfl rfl (Eff.box (cs := [_]) rfl rfl) ?_
  rintro _ _ ⟨b2, rfl, rfl⟩
  refine JO.pur rfl rfl rfl (Pur.assign rfl) ?_
  refine JO.nil ?_
  refine J.seq rfl ?_
  refine J.seq rfl ?_
  refine J.region rfl ?_
  refine JO.pur rfl rfl rfl (Pur.move rfl) ?_
  refine JO.nil ?_
  refine J.tail fun w0 => ?_
  refine JR.block ?_
  refine JR.rangeFunc1 (ι := KI) (H := fun s => blk bx (.cells #[.map (some mb)] 60) :: itA mb m s :: SB b2 (ksI m s) :: L) (Mid := fun s s' => blk bx (.cells #[.map (some mb)] 60) :: itA mb m s' :: SB b2 (ksI m s) :: L)
    (step := fun s s' v => ∃ i S j k x, m[j]? = some (k, x) ∧ ¬ j ∈ S ∧ (∀ y ∈ S, y < m.length) ∧ S.Nodup ∧ s = some (i, S) ∧ s' = some (i, j :: S) ∧ v = .int .i64 k)
    (fin := fun s => ∃ i S, s = some (i, S) ∧ S.Nodup ∧ (∀ j, j < m.length → j ∈ S) ∧ ∀ j ∈ S, j < m.length)
    rfl rfl (enters_body _ _) rfl none (fun v => [(5, v), (2, .pointer (some ⟨b2, 0, none⟩))]) (fun h s => by have s2 := sl_nil_new (E := intE) s; show Sat h (blk bx (.cells #[.map (some mb)] 60) :: mp intK mb m :: SB b2 [] :: L); exact SubC.out h (SB_mk (b := b2) (ks := []) (a := none) (c := 0) (SubC.out (M := blk b2 (.cells #[.slice none ([] : List Int).length 0] 34) :: sl intE none 0 [] :: blk bx (.cells #[.map (some mb)] 60) :: mp intK mb m :: L) h s2))) ?hit ?hassign ?hbody ?hdone
  case hit =>
    intro l A B hy w hs he
    have h1 := keys_it (l := l) (bx := bx) (mb := mb) (m := m) (w0 := w0) A B (fun S => SB b2 (keysS m S) :: L) (fun i S j k x h1 h2 h3 h4 w hs he => hy (some (i, S)) (some (i, j :: S)) (.int .i64 k) ⟨i, S, j, k, x, h1, h2, h3, h4, rfl, rfl, rfl⟩ w hs he) w hs he
    refine CallsIn.mono h1 ?_
    rintro e w' ⟨h1, h2, i, S, h3, h4, h5, h6⟩
    exact ⟨h1, h2, some (i, S), ⟨i, S, rfl, h3, h4, h5⟩, h6⟩
  case hassign =>
    intro l v M
    refine JR.region rfl ?_
    refine RO.pur rfl rfl rfl rfl (Pur.assign rfl) ?_
    refine RO.nil ?_
    exact ⟨rfl, rfl, rfl, .cons rfl rfl (.cons rfl rfl .nil)⟩
  case hbody =>
    rintro l _ _ _ A B ⟨i, S, j, k, x, h1, h2, h3, h4, rfl, rfl, rfl⟩
    have hsl := nodup_le _ _ h4 h3
    have hkl := keysS_len (m := m) (S := S)
    refine JR.imp (M := SB b2 (keysS m S) :: A :: B :: blk bx (.cells #[.map (some mb)] 60) :: mpIt intK mb i m (j :: S) :: L) (fun h s => SubC.out (L := A :: B :: blk bx (.cells #[.map (some mb)] 60) :: mpIt intK mb i m (j :: S) :: SB b2 (keysS m S) :: L) h s) ?_
    refine JR.ex (A := fun q : Option Addr × Nat => star [blk b2 (.cells #[.slice q.1 (keysS m S).length q.2] 34), sl intE q.1 q.2 (keysS m S)]) fun ⟨a0, c0⟩ => ?_
    refine JR.star ?_
    refine JR.imp (M := blk b2 (.cells #[.slice a0 (keysS m S).length c0] 34) :: sl intE a0 c0 (keysS m S) :: A :: B :: blk bx (.cells #[.map (some mb)] 60) :: mpIt intK mb i m (j :: S) :: L) (fun h s => s) ?_
    refine JR.block ?_
    refine JR.region rfl ?_
    refine RO.pur rfl rfl rfl rfl (Pur.load rfl (CellIn.blk rfl)) ?_
    refine RO.pur rfl rfl rfl rfl (Pur.move rfl) ?_
    refine RO.eff rfl rfl rfl rfl (Eff.buildSlice intE [k] rfl rfl rfl rfl rfl rfl rfl) ?_
    rintro _ _ ⟨b10, rfl, -, rfl⟩
    refine RO.eff rfl rfl rfl rfl (Eff.append rfl rfl rfl rfl rfl rfl (by decide) (by simp; omega) (by simp; omega) (fun h => by cases h)) ?_
    rintro _ _ ⟨a11, c11, rfl, rfl⟩
    refine RO.effN rfl rfl rfl (Eff.storeB rfl rfl rfl .head) ?_
    rintro _ _ ⟨rfl, rfl⟩
    refine RO.nil ?_
    refine ⟨rfl, fun h s => ?_⟩
    have s2 := SB_mk (b := b2) (ks := keysS m S ++ [k]) (a := a11) (c := c11) (L := A :: B :: blk bx (.cells #[.map (some mb)] 60) :: mpIt intK mb i m (j :: S) :: L) (by rw [List.length_append]; exact SubC.out h s)
    rw [← keysS_cons h1] at s2
    exact SubC.out (M := A :: B :: blk bx (.cells #[.map (some mb)] 60) :: mpIt intK mb i m (j :: S) :: SB b2 (keysS m (j :: S)) :: L) h s2
  case hdone =>
    rintro D A _ ⟨i, S, rfl, h1, h2, h3⟩
    refine JR.imp (M := SB b2 (keysS m S) :: A :: blk D dfr :: blk bx (.cells #[.map (some mb)] 60) :: mpIt intK mb i m S :: L) (fun h s => SubC.out (L := A :: blk D dfr :: blk bx (.cells #[.map (some mb)] 60) :: mpIt intK mb i m S :: SB b2 (keysS m S) :: L) h s) ?_
    refine JR.ex (A := fun q : Option Addr × Nat => star [blk b2 (.cells #[.slice q.1 (keysS m S).length q.2] 34), sl intE q.1 q.2 (keysS m S)]) fun ⟨a0, c0⟩ => ?_
    refine JR.star ?_
    refine JR.imp (M := A :: blk D dfr :: blk b2 (.cells #[.slice a0 (keysS m S).length c0] 34) :: sl intE a0 c0 (keysS m S) :: blk bx (.cells #[.map (some mb)] 60) :: mpIt intK mb i m S :: L) (fun h s => SubC.out (L := blk b2 (.cells #[.slice a0 (keysS m S).length c0] 34) :: sl intE a0 c0 (keysS m S) :: A :: blk D dfr :: blk bx (.cells #[.map (some mb)] 60) :: mpIt intK mb i m S :: L) h s) ?_
    refine JR.seq ?_
    refine JR.region rfl ?_
    refine RO.pur rfl rfl rfl rfl (Pur.load rfl (CellIn.blk rfl)) ?_
    refine RO.pur rfl rfl rfl rfl (Pur.assign rfl) ?_
    refine RO.nil ?_
    refine JR.ret ?_
    refine ⟨.inl rfl, D, A, _, _, rfl, rfl, (.tmp rfl .nil), ⟨_, _, ⟨a0, c0, keysS m S, rfl, keysS_perm h1 h2 h3, rfl⟩, rfl, fun h s => ?_⟩⟩
    have s2 : Sat h (mpIt intK mb i m S :: sl intE a0 c0 (keysS m S) :: L) := SubC.out h s
    have s3 := s2.cons_imp (B := mp intK mb m) (fun _ h => mpIt_done h) (fun _ h => h)
    exact s3.swap

end Go.Proofs.Ytgbckamaenapeaa

/- The text HOpen. -/
set_option linter.unusedVariables false
set_option linter.unusedSimpArgs false
set_option maxRecDepth 10000
namespace Go.Proofs.Ytgbckamaenapeaa
open Go Go.KK Hf

theorem keys_ok {L : List Asn} {mb : Nat} :
    CallS Try.prog 60 [.map (some mb)].toArray L (fun v M => ∃ bx, v = .func (.func 70) #[] #[.pointer (some ⟨bx, 0, none⟩)] ∧ M = blk bx (.cells #[.map (some mb)] 60) :: L) := by
  refine CallS.enter Try.func60 rfl rfl rfl rfl rfl ?_
  refine J.seq rfl ?_
  refine J.region rfl ?_
  refine JO.eff rfl rfl rfl (Eff.box (cs := [_]) rfl rfl) ?_
  rintro _ _ ⟨b1, rfl, rfl⟩
  refine JO.pur rfl rfl rfl (Pur.assign rfl) ?_
  refine JO.nil ?_
  refine J.seq rfl ?_
  refine J.region rfl ?_
  refine JO.pur rfl rfl rfl (Pur.makeFunc rfl rfl) ?_
  refine JO.pur rfl rfl rfl (Pur.assign rfl) ?_
  refine JO.nil ?_
  refine J.ret rfl rfl ?_
  exact ⟨b1, rfl, rfl⟩

theorem collect_ok {L : List Asn} {bx mb : Nat} {m : List (Int × Value)} (hml : m.length ≤ 100000) :
    CallS Try.prog 68 [.func (.func 70) #[] #[.pointer (some ⟨bx, 0, none⟩)]].toArray (blk bx (.cells #[.map (some mb)] 60) :: mp intK mb m :: L) (fun v M => ∃ a' c' ks, v = .slice a' ks.length c' ∧ ks.Perm (m.map (·.1)) ∧ M = sl intE a' c' ks :: mp intK mb m :: L) := by
  refine CallS.ent ?_
  refine CallS.enter Try.func68 rfl rfl rfl rfl rfl ?_
  refine J.seq rfl ?_
  refine J.region rfl ?_
  refine JO.pur rfl rfl rfl (Pur.assign rfl) ?_
  refine JO.nil ?_
  refine J.seq rfl ?_
  refine J.region rfl ?_
  refine JO.pur rfl rfl rfl (Pur.move rfl) ?_
  refine JO.eff rfl rfl rfl (Eff.call rfl (appseq_ok hml)) ?_
  rintro _ _ ⟨a4, c4, ks, rfl, hp, rfl⟩
  refine JO.pur rfl rfl rfl (Pur.assign rfl) ?_
  refine JO.nil ?_
  refine J.ret rfl rfl ?_
  exact ⟨_, _, ⟨a4, c4, ks, rfl, hp, rfl⟩, rfl, SubC.out⟩

theorem sorted_ok {L : List Asn} {bx mb : Nat} {m : List (Int × Value)} (hml : m.length ≤ 100000) :
    CallS Try.prog 59 [.func (.func 70) #[] #[.pointer (some ⟨bx, 0, none⟩)]].toArray (blk bx (.cells #[.map (some mb)] 60) :: mp intK mb m :: L) (fun v M => ∃ a' c' ks, v = .slice a' ks.length c' ∧ ks.Perm (m.map (·.1)) ∧ M = sl intE a' c' (srt ks) :: mp intK mb m :: L) := by
  refine CallS.ent ?_
  refine CallS.enter Try.func59 rfl rfl rfl rfl rfl ?_
  refine J.seq rfl ?_
  refine J.region rfl ?_
  refine JO.pur rfl rfl rfl (Pur.assign rfl) ?_
  refine JO.nil ?_
  refine J.seq rfl ?_
  refine J.region rfl ?_
  refine JO.pur rfl rfl rfl (Pur.move rfl) ?_
  refine JO.eff rfl rfl rfl (Eff.call rfl (collect_ok hml)) ?_
  rintro _ _ ⟨a5, c5, ks, rfl, hp, rfl⟩
  have hkl : ks.length = m.length := by have := hp.length_eq; simpa using this
  refine JO.pur rfl rfl rfl (Pur.assign rfl) ?_
  refine JO.nil ?_
  refine J.seq rfl ?_
  refine J.region rfl ?_
  refine JO.pur rfl rfl rfl (Pur.move rfl) ?_
  refine JO.eff rfl rfl rfl (Eff.call rfl (Sort_ok (xs := ks) (by omega))) ?_
  rintro _ _ ⟨rfl, rfl⟩
  refine JO.nil ?_
  refine J.seq rfl ?_
  refine J.region rfl ?_
  refine JO.pur rfl rfl rfl (Pur.move rfl) ?_
  refine JO.pur rfl rfl rfl (Pur.assign rfl) ?_
  refine JO.nil ?_
  refine J.ret rfl rfl ?_
  exact ⟨_, _, ⟨a5, c5, ks, rfl, hp, rfl⟩, rfl, SubC.out⟩

theorem srt_eq {ks ns : List Int} (hp : ks.Perm ns) (ho : ns.Pairwise (· < ·)) : srt ks = ns := by
  have h1 : (srt ks).Perm ns := (List.mergeSort_perm ks _).trans hp
  have h2 : (srt ks).Pairwise (fun x y => decide (x ≤ y) = true) := List.pairwise_mergeSort (le := fun (x y : Int) => decide (x ≤ y)) (fun a b c h1 h2 => decide_eq_true (Int.le_trans (of_decide_eq_true h1) (of_decide_eq_true h2))) (fun a b => by rcases Int.le_total a b with h | h <;> simp [h]) ks
  exact h1.eq_of_pairwise (le := fun x y => decide (x ≤ y) = true) (fun a b _ _ h1 h2 => Int.le_antisymm (of_decide_eq_true h1) (of_decide_eq_true h2)) h2 (ho.imp fun h => decide_eq_true (Int.le_of_lt h))
theorem ents_keys {rs : List Cr} {F : Fl} (hr : rs.length = F.opens.length) : (entsC rs F.opens).map (·.1) = numsF F := by
  unfold entsC numsF
  apply List.ext_getElem?
  intro j
  rw [List.getElem?_map, List.getElem?_map, List.getElem?_zipWith]
  cases h1 : F.opens[j]? with
  | none => cases rs[j]? <;> rfl
  | some c =>
    have hj : j < rs.length := by rw [hr]; exact (List.getElem?_eq_some_iff.1 h1).1
    rw [List.getElem?_eq_getElem hj]; rfl
theorem Open_ok {L : List Asn} {p : Nat} {F : Fl} {k : Nat} {ns : List Int} (g : Hf.Good F k) (hk : k ≤ 100000) (hpn : (numsF F).Perm ns) (ho : ns.Pairwise (· < ·)) :
    CallS Try.prog 35 [.pointer (some ⟨p, 0, none⟩)].toArray (FA p F :: L) (fun v M => ∃ a' c', v = .slice a' ns.length c' ∧ M = sl intE a' c' ns :: FA p F :: L) := by
  refine CallS.ent ?_
  refine CallS.enter Try.func35 rfl rfl rfl rfl rfl ?_
  refine J.seq rfl ?_
  refine FA_open fun ab cb mb rs hr => ?_
  refine J.region rfl ?_
  refine JO.pur rfl rfl rfl (Pur.assign rfl) ?_
  refine JO.nil ?_
  refine J.seq rfl ?_
  refine J.seq rfl ?_
  refine J.region rfl ?_
  refine JO.pur rfl rfl rfl (Pur.move rfl) ?_
  refine JO.effR rfl rfl rfl (Eff.call rfl (none_ok)) ?_
  refine JO.setv (u' := .bool false) 4 rfl (congrArg Value.bool (rfl)) ?_
  refine JO.nil ?_
  refine J.condF rfl rfl ?_
  refine J.skip rfl ?_
  refine J.seq rfl ?_
  refine J.pullC (A := mp intK mb (entsC rs F.opens)) inferInstance ?_
  have hel := entsC_len hr
  have gol := g.ol
  refine J.region rfl ?_
  refine JO.pur rfl rfl rfl (Pur.move rfl) ?_
  refine JO.pur rfl rfl rfl (Pur.nilCheck rfl) ?_
  refine JO.pur rfl rfl rfl (Pur.fieldAddr rfl) ?_
  refine JO.pur rfl rfl rfl (Pur.load rfl (CellIn.blk rfl)) ?_
  refine JO.eff rfl rfl rfl (Eff.call rfl (keys_ok)) ?_
  rintro _ _ ⟨bx, rfl, rfl⟩
  refine JO.eff rfl rfl rfl (Eff.call rfl (sorted_ok (m := entsC rs F.opens) (by omega))) ?_
  rintro _ _ ⟨a10, c10, ks, rfl, hp, rfl⟩
  refine JO.pur rfl rfl rfl (Pur.assign rfl) ?_
  refine JO.nil ?_
  refine J.ret rfl rfl ?_
  rw [ents_keys hr] at hp
  have hse := srt_eq (hp.trans hpn) ho
  have hkl : ks.length = ns.length := (hp.trans hpn).length_eq
  refine ⟨_, _, ⟨a10, c10, by rw [← hkl]; rfl, rfl⟩, rfl, fun h s => ?_⟩
  rw [hse] at s
  have s2 := FA_mk (L := sl intE a10 c10 ns :: L) (F := F) (p := p) (ab := ab) (cb := cb) (mb := mb) hr (SubC.out h s)
  exact s2.swap

end Go.Proofs.Ytgbckamaenapeaa

/- The text HP5. -/
/-! Two files whose channels stand in another order. No program in sight. -/
set_option linter.unusedVariables false
set_option linter.unusedSimpArgs false
namespace Hf
open Go.KK
structure Sm (F F' : Fl) : Prop where
  b : F'.bytes = F.bytes
  n : F'.next = F.next
  p : F'.opens.Perm F.opens
  u : F.opens.Pairwise (fun c d => c.num ≠ d.num)
theorem perm_set {α : Type} {l : List α} {i : Nat} {c : α} (h : i < l.length) : (l.set i c).Perm (c :: l.eraseIdx i) := by
  rw [List.set_eq_take_append_cons_drop, if_pos h, List.eraseIdx_eq_take_drop_succ]
  exact List.perm_middle
theorem perm_cut {α : Type} {l : List α} {i : Nat} (h : i < l.length) : l.Perm (l[i] :: l.eraseIdx i) := by
  have h1 := perm_set (c := l[i]) h
  rwa [List.set_getElem_self] at h1
theorem perm_erase {α : Type} {l l' : List α} {i j : Nat} (hp : l'.Perm l) (hi : i < l.length) (hj : j < l'.length) (e : l'[j] = l[i]) : (l'.eraseIdx j).Perm (l.eraseIdx i) := by
  have h1 := (perm_cut hj).symm.trans (hp.trans (perm_cut hi))
  rw [e] at h1
  exact h1.cons_inv
theorem ix_sm {F F' : Fl} (s : Sm F F') (n : Int) : (ix F n = none ∧ ix F' n = none) ∨ ∃ i j, ix F n = some i ∧ ix F' n = some j ∧ ch F' j = ch F i := by
  cases hx : ix F n with
  | none =>
    left
    refine ⟨rfl, ?_⟩
    unfold ix at hx ⊢
    rw [List.findIdx?_eq_none_iff] at hx ⊢
    exact fun c hc => hx c (s.p.mem_iff.1 hc)
  | some i =>
    right
    obtain ⟨h1, h2, h3⟩ := ix_some hx
    have hm : ch F i ∈ F'.opens := s.p.mem_iff.2 (ch_mem hx)
    cases hy : ix F' n with
    | none =>
      unfold ix at hy
      rw [List.findIdx?_eq_none_iff] at hy
      have := hy _ hm
      simp [h3] at this
    | some j =>
      refine ⟨i, j, rfl, rfl, ?_⟩
      obtain ⟨g1, g2, g3⟩ := ix_some hy
      have hm2 : ch F' j ∈ F.opens := s.p.mem_iff.1 (ch_mem hy)
      refine Classical.byContradiction fun hne => ?_
      obtain ⟨a, ha, ea⟩ := List.getElem_of_mem hm2
      obtain ⟨b, hb, eb⟩ := List.getElem_of_mem (ch_mem hx)
      have hu := List.pairwise_iff_getElem.1 s.u
      have hnum : F.opens[a].num = F.opens[b].num := by rw [ea, eb, g3, h3]
      rcases Nat.lt_trichotomy a b with h | h | h
      · exact hu a b ha hb h hnum
      · subst h; exact hne (ea.symm.trans eb)
      · exact hu b a hb ha h hnum.symm
theorem getE {F : Fl} {n : Int} {i : Nat} (h : ix F n = some i) : ∃ hi : i < F.opens.length, F.opens[i] = ch F i := by
  obtain ⟨h1, h2, _⟩ := ix_some h
  refine ⟨h1, ?_⟩
  rw [List.getElem?_eq_getElem h1] at h2; exact Option.some.inj h2
theorem upd_sm {F F' : Fl} {n : Int} {i j : Nat} {c : Ch} (s : Sm F F') (hi : ix F n = some i) (hj : ix F' n = some j) (e : ch F' j = ch F i) (hn : c.num = (ch F i).num) : Sm (upd F i c) (upd F' j c) := by
  obtain ⟨h1, e1⟩ := getE hi
  obtain ⟨h2, e2⟩ := getE hj
  refine ⟨s.b, s.n, ?_, ?_⟩
  · exact (perm_set h2).trans (((perm_erase s.p h1 h2 (by rw [e1, e2, e])).cons c).trans (perm_set h1).symm)
  · have hu : (F.opens.map (·.num)).Pairwise (· ≠ ·) := by rw [List.pairwise_map]; exact s.u
    have hw : ((F.opens.set i c).map (·.num)).Pairwise (· ≠ ·) := by rw [set_nums (ix_some hi).2.1 hn]; exact hu
    rw [List.pairwise_map] at hw; exact hw
theorem any_sm {F F' : Fl} (s : Sm F F') (f : Ch → Bool) : F'.opens.any f = F.opens.any f := by
  rw [Bool.eq_iff_iff, List.any_eq_true, List.any_eq_true]
  exact ⟨fun ⟨c, h1, h2⟩ => ⟨c, s.p.mem_iff.1 h1, h2⟩, fun ⟨c, h1, h2⟩ => ⟨c, s.p.mem_iff.2 h1, h2⟩⟩
theorem write_sm {F F' : Fl} (s : Sm F F') (n : Int) (b : List UInt8) : (writeF F' n b).2 = (writeF F n b).2 ∧ Sm (writeF F n b).1 (writeF F' n b).1 := by
  unfold writeF
  rcases ix_sm s n with ⟨h1, h2⟩ | ⟨i, j, h1, h2, e⟩
  · rw [h1, h2]; exact ⟨rfl, s⟩
  · rw [h1, h2]; dsimp only; rw [e]
    first
    | (split
       · exact ⟨rfl, s⟩
       · exact ⟨rfl, upd_sm s h1 h2 e rfl⟩)
    | exact ⟨rfl, upd_sm s h1 h2 e rfl⟩
theorem mark_sm {F F' : Fl} (s : Sm F F') (n : Int) : (markF F' n).2 = (markF F n).2 ∧ Sm (markF F n).1 (markF F' n).1 := by
  unfold markF
  rcases ix_sm s n with ⟨h1, h2⟩ | ⟨i, j, h1, h2, e⟩
  · rw [h1, h2]; exact ⟨rfl, s⟩
  · rw [h1, h2]; dsimp only; rw [e]
    first
    | (split
       · exact ⟨rfl, s⟩
       · exact ⟨rfl, upd_sm s h1 h2 e rfl⟩)
    | exact ⟨rfl, upd_sm s h1 h2 e rfl⟩
theorem revert_sm {F F' : Fl} (s : Sm F F') (n : Int) : (revertF F' n).2 = (revertF F n).2 ∧ Sm (revertF F n).1 (revertF F' n).1 := by
  unfold revertF
  rcases ix_sm s n with ⟨h1, h2⟩ | ⟨i, j, h1, h2, e⟩
  · rw [h1, h2]; exact ⟨rfl, s⟩
  · rw [h1, h2]; dsimp only; rw [e]
    first
    | (split
       · exact ⟨rfl, s⟩
       · exact ⟨rfl, upd_sm s h1 h2 e (rev_num _).1⟩)
    | exact ⟨rfl, upd_sm s h1 h2 e (rev_num _).1⟩
theorem accept_sm {F F' : Fl} (s : Sm F F') (n : Int) : (acceptF F' n).2 = (acceptF F n).2 ∧ Sm (acceptF F n).1 (acceptF F' n).1 := by
  unfold acceptF
  rcases ix_sm s n with ⟨h1, h2⟩ | ⟨i, j, h1, h2, e⟩
  · rw [h1, h2]; exact ⟨rfl, s⟩
  · rw [h1, h2]; dsimp only; rw [e]
    first
    | (split
       · exact ⟨rfl, s⟩
       · exact ⟨rfl, upd_sm s h1 h2 e rfl⟩)
    | exact ⟨rfl, upd_sm s h1 h2 e rfl⟩
theorem begin_sm {F F' : Fl} (s : Sm F F') (hl : ∀ c ∈ F.opens, c.num < F.next) (fr to : Int) (wr : Bool) : (beginF F' fr to wr).2 = (beginF F fr to wr).2 ∧ Sm (beginF F fr to wr).1 (beginF F' fr to wr).1 := by
  unfold beginF
  split
  · exact ⟨rfl, s⟩
  rw [any_sm s]
  split
  · exact ⟨rfl, s⟩
  · refine ⟨by rw [s.n], ⟨s.b, by show F'.next + 1 = F.next + 1; rw [s.n], ?_, ?_⟩⟩
    · show (F'.opens ++ [newC F' fr to wr]).Perm (F.opens ++ [newC F fr to wr])
      rw [show newC F' fr to wr = newC F fr to wr by unfold newC; rw [s.n]]
      exact s.p.append_right _
    · show (F.opens ++ [newC F fr to wr]).Pairwise _
      rw [List.pairwise_append]
      refine ⟨s.u, by simp, fun a ha b hb => ?_⟩
      simp only [List.mem_singleton] at hb; subst hb
      have := hl a ha
      show a.num ≠ F.next
      omega
theorem read_sm {F F' : Fl} (s : Sm F F') (n q : Int) : (readF F' n q).2 = (readF F n q).2 ∧ Sm (readF F n q).1 (readF F' n q).1 := by
  unfold readF
  rcases ix_sm s n with ⟨h1, h2⟩ | ⟨i, j, h1, h2, e⟩
  · rw [h1, h2]; exact ⟨rfl, s⟩
  · rw [h1, h2]; dsimp only; rw [e]
    have em : many F' (ch F i) q = many F (ch F i) q := by unfold many; rw [s.b]
    rw [em, s.b]
    split
    · exact ⟨rfl, s⟩
    split
    · exact ⟨rfl, s⟩
    · exact ⟨rfl, upd_sm s h1 h2 e rfl⟩
theorem commit_sm {F F' : Fl} (s : Sm F F') (n : Int) : (commitF F' n).2 = (commitF F n).2 ∧ Sm (commitF F n).1 (commitF F' n).1 := by
  unfold commitF
  rcases ix_sm s n with ⟨h1, h2⟩ | ⟨i, j, h1, h2, e⟩
  · rw [h1, h2]; exact ⟨rfl, s⟩
  · rw [h1, h2]; dsimp only; rw [e]
    split
    · exact ⟨rfl, s⟩
    · have u := upd_sm s h1 h2 e (c := putC (ch F i)) (put_num _).1
      refine ⟨rfl, ⟨?_, u.n, ?_, u.u⟩⟩
      · show putB F'.bytes (ch F' j) = putB F.bytes (ch F i); rw [s.b, e]
      · show (F'.opens.set j (putC (ch F' j))).Perm (F.opens.set i (putC (ch F i))); rw [e]; exact u.p
theorem close_sm {F F' : Fl} (s : Sm F F') (n : Int) : (closeF F' n).2 = (closeF F n).2 ∧ Sm (closeF F n).1 (closeF F' n).1 := by
  unfold closeF
  rcases ix_sm s n with ⟨h1, h2⟩ | ⟨i, j, h1, h2, e⟩
  · rw [h1, h2]; exact ⟨rfl, s⟩
  · rw [h1, h2]; dsimp only; rw [e]
    obtain ⟨g1, e1⟩ := getE h1
    obtain ⟨g2, e2⟩ := getE h2
    exact ⟨rfl, ⟨by show putB F'.bytes _ = putB F.bytes _; rw [s.b], s.n, perm_erase s.p g1 g2 (by rw [e1, e2, e]), s.u.sublist (List.eraseIdx_sublist _ _)⟩⟩
theorem place_sm {F F' : Fl} (s : Sm F F') (n : Int) : placeF F' n = placeF F n := by
  unfold placeF
  rcases ix_sm s n with ⟨h1, h2⟩ | ⟨i, j, h1, h2, e⟩
  · rw [h1, h2]
  · rw [h1, h2]; dsimp only; rw [e]
theorem left_sm {F F' : Fl} (s : Sm F F') (n : Int) : leftF F' n = leftF F n := by
  unfold leftF
  rcases ix_sm s n with ⟨h1, h2⟩ | ⟨i, j, h1, h2, e⟩
  · rw [h1, h2]
  · rw [h1, h2]; dsimp only; rw [e]

theorem sm_refl {F : Fl} (h : F.opens.Pairwise (fun c d => c.num ≠ d.num)) : Sm F F := ⟨rfl, rfl, List.Perm.refl _, h⟩
theorem sm_good {F F' : Fl} {k : Nat} (g : Good F k) (s : Sm F F') : Good F' k :=
  ⟨by rw [s.b]; exact g.b4, by rw [s.n]; exact g.n1, by rw [s.n]; exact g.nk, (s.p.pairwise_iff (fun h => Ne.symm h)).2 g.ord, fun c hc => by rw [s.n]; exact g.lt c (s.p.mem_iff.1 hc), fun c hc => g.gc c (s.p.mem_iff.1 hc), fun c hc => g.mks c (s.p.mem_iff.1 hc), by rw [s.p.length_eq]; exact g.ol⟩
theorem sm_nums {F F' : Fl} (s : Sm F F') : (numsF F').Perm (numsF F) := s.p.map _
/-- The numbers ascend. -/
def Asc (F : Fl) : Prop := (numsF F).Pairwise (· < ·)
theorem upd_nums {F : Fl} {n : Int} {i : Nat} {c : Ch} (h : ix F n = some i) (hn : c.num = (ch F i).num) : numsF (upd F i c) = numsF F := set_nums (ix_some h).2.1 hn
theorem asc_new {bs : List UInt8} : Asc (newF bs) := by simp [Asc, newF, numsF]
theorem asc_upd {F : Fl} {n : Int} {i : Nat} {c : Ch} (a : Asc F) (h : ix F n = some i) (hn : c.num = (ch F i).num) : Asc (upd F i c) := by unfold Asc; rw [upd_nums h hn]; exact a
theorem asc_begin {F : Fl} {k : Nat} (g : Good F k) (a : Asc F) (fr to : Int) (wr : Bool) : Asc (beginF F fr to wr).1 := by
  unfold beginF
  split
  · exact a
  split
  · exact a
  show ((F.opens ++ [newC F fr to wr]).map (·.num)).Pairwise (· < ·)
  rw [List.map_append, List.pairwise_append]
  refine ⟨a, by simp, fun x hx y hy => ?_⟩
  obtain ⟨c, hc, rfl⟩ := List.mem_map.1 hx
  simp only [List.map_cons, List.map_nil, List.mem_singleton] at hy; subst hy
  exact (g.lt c hc).2
theorem asc_read {F : Fl} (a : Asc F) (n q : Int) : Asc (readF F n q).1 := by
  unfold readF
  split
  · exact a
  · rename_i i h
    split
    · exact a
    split
    · exact a
    · exact asc_upd a h rfl
theorem asc_write {F : Fl} (a : Asc F) (n : Int) (b : List UInt8) : Asc (writeF F n b).1 := by
  unfold writeF
  split
  · exact a
  · rename_i i h
    split
    · exact a
    · exact asc_upd a h rfl
theorem asc_mark {F : Fl} (a : Asc F) (n : Int) : Asc (markF F n).1 := by
  unfold markF
  split
  · exact a
  · rename_i i h
    exact asc_upd a h rfl
theorem asc_revert {F : Fl} (a : Asc F) (n : Int) : Asc (revertF F n).1 := by
  unfold revertF
  split
  · exact a
  · rename_i i h
    split
    · exact a
    · exact asc_upd a h (rev_num _).1
theorem asc_accept {F : Fl} (a : Asc F) (n : Int) : Asc (acceptF F n).1 := by
  unfold acceptF
  split
  · exact a
  · rename_i i h
    split
    · exact a
    · exact asc_upd a h rfl
theorem asc_commit {F : Fl} (a : Asc F) (n : Int) : Asc (commitF F n).1 := by
  unfold commitF
  split
  · exact a
  · rename_i i h
    split
    · exact a
    · have := asc_upd (c := putC (ch F i)) a h (put_num _).1
      exact this
theorem asc_close {F : Fl} (a : Asc F) (n : Int) : Asc (closeF F n).1 := by
  unfold closeF
  split
  · exact a
  · rename_i i h
    exact a.sublist ((List.eraseIdx_sublist _ _).map _)
end Hf

/- The text HFs. -/
set_option linter.unusedVariables false
set_option linter.unusedSimpArgs false
set_option maxRecDepth 10000
namespace Go.Proofs.Ytgbckamaenapeaa
open Go Go.KK Hf

/-- A file whose channels stand in some order. -/
def FS (p : Nat) (F : Fl) : Asn := fun h => ∃ F', Sm F F' ∧ FA p F' h
theorem FS_call {P : Program} {f : FuncId} {args : Array Value} {L : List Asn} {Q : Value → List Asn → Prop} {p : Nat} {F : Fl} (h : ∀ F', Sm F F' → CallS P f args (FA p F' :: L) Q) : CallS P f args (FS p F :: L) Q := fun w hs => by
  obtain ⟨F', hs⟩ := Sat.ex (A := fun F' => fun h => Sm F F' ∧ FA p F' h) hs
  obtain ⟨sm, hs⟩ := hs.pure
  exact h F' sm w hs
theorem FS_mk {p : Nat} {F F' : Fl} {L : List Asn} {h : Hp} (sm : Sm F F') (s : Sat h (FA p F' :: L)) : Sat h (FS p F :: L) := s.cons_imp (fun k hk => ⟨F', sm, hk⟩) (fun _ h => h)
theorem sClose_ok {L : List Asn} {p : Nat} {F : Fl} {n : Int} {k : Nat} (g : Hf.Good F k) (hk : k ≤ 100000) : CallS Try.prog 20 [.pointer (some ⟨p, 0, none⟩), .int .i64 n].toArray (FS p F :: L) (fun v M => v = .int .i64 (closeF F n).2 ∧ M = FS p (closeF F n).1 :: L) := FS_call fun F' s => by
  have e := close_sm s n
  refine (Close_ok (F := F') (sm_good g s) hk).mono ?_
  rintro v M ⟨rfl, rfl⟩
  exact ⟨_, ⟨by rw [e.1], rfl⟩, fun h hs => FS_mk e.2 hs⟩
theorem sCommit_ok {L : List Asn} {p : Nat} {F : Fl} {n : Int} {k : Nat} (g : Hf.Good F k) (hk : k ≤ 100000) : CallS Try.prog 24 [.pointer (some ⟨p, 0, none⟩), .int .i64 n].toArray (FS p F :: L) (fun v M => v = .int .i64 (commitF F n).2 ∧ M = FS p (commitF F n).1 :: L) := FS_call fun F' s => by
  have e := commit_sm s n
  refine (Commit_ok (F := F') (sm_good g s) hk).mono ?_
  rintro v M ⟨rfl, rfl⟩
  exact ⟨_, ⟨by rw [e.1], rfl⟩, fun h hs => FS_mk e.2 hs⟩
theorem sMark_ok {L : List Asn} {p : Nat} {F : Fl} {n : Int} {k : Nat} (g : Hf.Good F k) (hk : k ≤ 100000) : CallS Try.prog 26 [.pointer (some ⟨p, 0, none⟩), .int .i64 n].toArray (FS p F :: L) (fun v M => v = .int .i64 (markF F n).2 ∧ M = FS p (markF F n).1 :: L) := FS_call fun F' s => by
  have e := mark_sm s n
  refine (Mark_ok (F := F') (sm_good g s) hk).mono ?_
  rintro v M ⟨rfl, rfl⟩
  exact ⟨_, ⟨by rw [e.1], rfl⟩, fun h hs => FS_mk e.2 hs⟩
theorem sRevert_ok {L : List Asn} {p : Nat} {F : Fl} {n : Int} {k : Nat} (g : Hf.Good F k) (hk : k ≤ 100000) : CallS Try.prog 27 [.pointer (some ⟨p, 0, none⟩), .int .i64 n].toArray (FS p F :: L) (fun v M => v = .int .i64 (revertF F n).2 ∧ M = FS p (revertF F n).1 :: L) := FS_call fun F' s => by
  have e := revert_sm s n
  refine (Revert_ok (F := F') (sm_good g s) hk).mono ?_
  rintro v M ⟨rfl, rfl⟩
  exact ⟨_, ⟨by rw [e.1], rfl⟩, fun h hs => FS_mk e.2 hs⟩
theorem sAccept_ok {L : List Asn} {p : Nat} {F : Fl} {n : Int} {k : Nat} (g : Hf.Good F k) (hk : k ≤ 100000) : CallS Try.prog 28 [.pointer (some ⟨p, 0, none⟩), .int .i64 n].toArray (FS p F :: L) (fun v M => v = .int .i64 (acceptF F n).2 ∧ M = FS p (acceptF F n).1 :: L) := FS_call fun F' s => by
  have e := accept_sm s n
  refine (Accept_ok (F := F') (sm_good g s) hk).mono ?_
  rintro v M ⟨rfl, rfl⟩
  exact ⟨_, ⟨by rw [e.1], rfl⟩, fun h hs => FS_mk e.2 hs⟩
theorem sWrite_ok {L : List Asn} {p : Nat} {F : Fl} {n : Int} {b : Option Addr} {m cq : Nat} {ys : List UInt8} [SlIn byE L b ys] (hm : m = ys.length) (hys : ys.length ≤ 9223372036854775807) (hnil : b = none → m = 0 ∧ cq = 0) {k : Nat} (g : Hf.Good F k) (hk : k ≤ 100000) : CallS Try.prog 19 [.pointer (some ⟨p, 0, none⟩), .int .i64 n, .slice b m cq].toArray (FS p F :: L) (fun v M => v = .int .i64 (writeF F n ys).2 ∧ M = FS p (writeF F n ys).1 :: L) := FS_call fun F' s => by
  have e := write_sm s n ys
  refine (Write_ok (F := F') hm hys hnil (sm_good g s) hk).mono ?_
  rintro v M ⟨rfl, rfl⟩
  exact ⟨_, ⟨by rw [e.1], rfl⟩, fun h hs => FS_mk e.2 hs⟩
theorem sReader_ok {L : List Asn} {p : Nat} {F : Fl} {fr to : Int} {k : Nat} (g : Hf.Good F k) (hk : k ≤ 100000) : CallS Try.prog 22 [.pointer (some ⟨p, 0, none⟩), .int .i64 fr, .int .i64 to].toArray (FS p F :: L) (fun v M => v = .tuple #[.int .i64 (beginF F fr to false).2.1, .int .i64 (beginF F fr to false).2.2] ∧ M = FS p (beginF F fr to false).1 :: L) := FS_call fun F' s => by
  have e := begin_sm s (fun c hc => (g.lt c hc).2) fr to false
  refine (Reader_ok (F := F') (sm_good g s) hk).mono ?_
  rintro v M ⟨rfl, rfl⟩
  exact ⟨_, ⟨by rw [e.1], rfl⟩, fun h hs => FS_mk e.2 hs⟩
theorem sWriter_ok {L : List Asn} {p : Nat} {F : Fl} {fr to : Int} {k : Nat} (g : Hf.Good F k) (hk : k ≤ 100000) : CallS Try.prog 18 [.pointer (some ⟨p, 0, none⟩), .int .i64 fr, .int .i64 to].toArray (FS p F :: L) (fun v M => v = .tuple #[.int .i64 (beginF F fr to true).2.1, .int .i64 (beginF F fr to true).2.2] ∧ M = FS p (beginF F fr to true).1 :: L) := FS_call fun F' s => by
  have e := begin_sm s (fun c hc => (g.lt c hc).2) fr to true
  refine (Writer_ok (F := F') (sm_good g s) hk).mono ?_
  rintro v M ⟨rfl, rfl⟩
  exact ⟨_, ⟨by rw [e.1], rfl⟩, fun h hs => FS_mk e.2 hs⟩
theorem sRead_ok {L : List Asn} {p : Nat} {F : Fl} {n q : Int} {k : Nat} (g : Hf.Good F k) (hk : k ≤ 100000) : CallS Try.prog 23 [.pointer (some ⟨p, 0, none⟩), .int .i64 n, .int .i64 q].toArray (FS p F :: L) (fun v M => ∃ a' c', v = .tuple #[.slice a' (readF F n q).2.1.length c', .int .i64 (readF F n q).2.2] ∧ M = sl byE a' c' (readF F n q).2.1 :: FS p (readF F n q).1 :: L) := FS_call fun F' s => by
  have e := read_sm s n q
  refine (Read_ok (F := F') (sm_good g s) hk).mono ?_
  rintro v M ⟨a', c', rfl, rfl⟩
  refine ⟨_, ⟨a', c', by rw [e.1], rfl⟩, fun h hs => ?_⟩
  rw [e.1] at hs
  exact hs.cons_imp (fun _ h => h) (fun _ h => FS_mk e.2 h)
theorem sPlace_ok {L : List Asn} {p : Nat} {F : Fl} {n : Int} {k : Nat} (g : Hf.Good F k) (hk : k ≤ 100000) : CallS Try.prog 29 [.pointer (some ⟨p, 0, none⟩), .int .i64 n].toArray (FS p F :: L) (fun v M => v = .tuple #[.int .i64 (placeF F n).1, .int .i64 (placeF F n).2] ∧ M = FS p F :: L) := FS_call fun F' s => by
  have e := place_sm s n
  refine (Place_ok (F := F') (sm_good g s) hk).mono ?_
  rintro v M ⟨rfl, rfl⟩
  exact ⟨_, ⟨by rw [e], rfl⟩, fun h hs => FS_mk s hs⟩
theorem sLeft_ok {L : List Asn} {p : Nat} {F : Fl} {n : Int} {k : Nat} (g : Hf.Good F k) (hk : k ≤ 100000) : CallS Try.prog 34 [.pointer (some ⟨p, 0, none⟩), .int .i64 n].toArray (FS p F :: L) (fun v M => v = .tuple #[.int .i64 (leftF F n).1, .int .i64 (leftF F n).2] ∧ M = FS p F :: L) := FS_call fun F' s => by
  have e := left_sm s n
  refine (Left_ok (F := F') (sm_good g s) hk).mono ?_
  rintro v M ⟨rfl, rfl⟩
  exact ⟨_, ⟨by rw [e], rfl⟩, fun h hs => FS_mk s hs⟩
theorem sBytes_ok {L : List Asn} {p : Nat} {F : Fl} (hb : F.bytes.length ≤ 400) : CallS Try.prog 21 [.pointer (some ⟨p, 0, none⟩)].toArray (FS p F :: L) (fun v M => ∃ a' c', v = .slice a' F.bytes.length c' ∧ M = sl byE a' c' F.bytes :: FS p F :: L) := FS_call fun F' s => by
  refine (Bytes_ok (F := F') (by rw [s.b]; exact hb)).mono ?_
  rintro v M ⟨a', c', rfl, rfl⟩
  refine ⟨_, ⟨a', c', by rw [s.b], rfl⟩, fun h hs => ?_⟩
  rw [s.b] at hs
  exact hs.cons_imp (fun _ h => h) (fun _ h => FS_mk s h)
theorem sOpen_ok {L : List Asn} {p : Nat} {F : Fl} {k : Nat} (g : Hf.Good F k) (hk : k ≤ 100000) (ha : Asc F) : CallS Try.prog 35 [.pointer (some ⟨p, 0, none⟩)].toArray (FS p F :: L) (fun v M => ∃ a' c', v = .slice a' (numsF F).length c' ∧ M = sl intE a' c' (numsF F) :: FS p F :: L) := FS_call fun F' s => by
  refine (Open_ok (F := F') (sm_good g s) hk (sm_nums s) ha).mono ?_
  rintro v M ⟨a', c', rfl, rfl⟩
  exact ⟨_, ⟨a', c', rfl, rfl⟩, fun h hs => hs.cons_imp (fun _ h => h) (fun _ h => FS_mk s h)⟩
theorem asc_step {F : Fl} {k : Nat} (g : Hf.Good F k) (a : Asc F) (d x y : Int) (ys : List UInt8) : Asc (stepF F d x y ys) := by
  unfold stepF
  repeat' split
  all_goals first | exact asc_begin g a _ _ _ | exact asc_read a _ _ | exact asc_write a _ _ | exact asc_mark a _ | exact asc_revert a _ | exact asc_accept a _ | exact asc_commit a _ | exact asc_close a _
end Go.Proofs.Ytgbckamaenapeaa
