/-
  A part of the proof of the claim that this folder bears.
-/
import Derived.Test.YtoikjjpleonllaaPAG
/- The text G12. -/
set_option linter.unusedVariables false
set_option linter.unusedSimpArgs false
set_option maxRecDepth 10000
namespace Go.Proofs.Ytoikjjpleonllaa
open Go Go.KK Gr

def okN (k o : ByteArray) (root : Int) (vs : List Int) : Prop := k ∈ kinds ∧ o ∈ opsL ∧ (1 ≤ vs.length ∧ vs.length ≤ 8) ∧ (¬ k = sScan → 0 ≤ root ∧ root < (vs.length : Int))
def needN (k : ByteArray) : Prop := k = sRed ∨ k = sAll ∨ k = sScan
instance (k : ByteArray) : Decidable (needN k) := inferInstanceAs (Decidable (_ ∨ _))
def isNB (x : Int) : Prop := x ≠ 0 ∧ x ≠ 1
instance (x : Int) : Decidable (isNB x) := inferInstanceAs (Decidable (_ ∧ _))
def boolN (k o : ByteArray) (vs : List Int) : Prop := needN k ∧ (o = ⟨#[38]⟩ ∨ o = ⟨#[124]⟩) ∧ ∃ v ∈ vs, isNB v
def goodN (k o : ByteArray) (root : Int) (vs : List Int) : Prop := okN k o root vs ∧ ¬ boolN k o vs
def g0 (k o : ByteArray) (root : Int) (vs : List Int) : Gs := if k = sBar then ⟨k, ⟨#[43]⟩, root, ms0 (List.replicate vs.length 0), [], 0⟩ else ⟨k, o, root, ms0 vs, [], 0⟩
def newG (k o : ByteArray) (root : Int) (vs : List Int) : Gs := beginG (g0 k o root vs)
theorem g0_len (k o : ByteArray) (root : Int) (vs : List Int) : (g0 k o root vs).ms.length = vs.length := by unfold g0; split <;> simp [ms0]
theorem g0_kind (k o : ByteArray) (root : Int) (vs : List Int) : (g0 k o root vs).kind = k ∧ (g0 k o root vs).root = root ∧ (g0 k o root vs).fly = [] ∧ (g0 k o root vs).sent = 0 := by unfold g0; split <;> exact ⟨rfl, rfl, rfl, rfl⟩
theorem ok_ops {o : ByteArray} (h : o ∈ opsL) : okOp o := by
  simp only [opsL, List.mem_cons, List.not_mem_nil, or_false] at h
  unfold okOp
  rcases h with h | h | h | h | h | h
  · exact .inl h
  · exact .inr (.inl h)
  · exact .inr (.inr (.inl h))
  · exact .inr (.inr (.inr (.inl h)))
  · exact .inr (.inr (.inr (.inr (.inl h))))
  · exact .inr (.inr (.inr (.inr (.inr h))))
theorem g0_op {k o : ByteArray} {root : Int} {vs : List Int} (h : o ∈ opsL) : okOp (g0 k o root vs).op := by
  unfold g0; split
  · exact .inl rfl
  · exact ok_ops h
theorem ms0_mem {vs : List Int} {m : Mm} (h : m ∈ ms0 vs) : m.r = 0 ∧ m.got = [] ∧ m.has = false ∧ m.res = 0 := by
  obtain ⟨v, _, rfl⟩ := List.mem_map.1 h
  exact ⟨rfl, rfl, rfl, rfl⟩
theorem wf_g0 {k o : ByteArray} {root : Int} {vs : List Int} (h1 : 1 ≤ vs.length) (h8 : vs.length ≤ 8) : wf (g0 k o root vs) := by
  refine ⟨by rw [g0_len]; exact h1, by rw [g0_len]; exact h8, fun m hm => ?_, fun m hm => by rw [(g0_kind k o root vs).2.2.1] at hm; cases hm⟩
  unfold g0 at hm
  split at hm <;> (rw [(ms0_mem hm).1]; omega)
def zs (vs : List Int) (q : Nat) : List Int := List.replicate q 0 ++ vs.drop q
theorem zs_get {vs : List Int} {q : Nat} {x : Int} (h : vs[q]? = some x) : (ms0 (zs vs q))[q]? = some ⟨x, 0, [], false, 0⟩ := by
  unfold ms0 zs
  rw [List.getElem?_map, List.getElem?_append_right (by simp), List.length_replicate, Nat.sub_self, List.getElem?_drop, Nat.add_zero, h]; rfl
theorem zs_len {vs : List Int} {q : Nat} (h : q ≤ vs.length) : (ms0 (zs vs q)).length = vs.length := by
  rw [ms0_len]; unfold zs; rw [List.length_append, List.length_replicate, List.length_drop]; omega
theorem zs_set {vs : List Int} {q : Nat} {x : Int} (h : vs[q]? = some x) : (ms0 (zs vs q)).set q ⟨0, 0, [], false, 0⟩ = ms0 (zs vs (q + 1)) := by
  have hq := (List.getElem?_eq_some_iff.1 h).1
  apply List.ext_getElem?
  intro j
  rw [List.getElem?_set]
  have e2 : vs.drop q = x :: vs.drop (q + 1) := by rw [← (List.getElem?_eq_some_iff.1 h).2]; exact List.drop_eq_getElem_cons hq
  by_cases hj : q = j
  · subst hj
    rw [if_pos rfl, if_pos (by rw [zs_len (by omega)]; exact hq)]
    unfold ms0 zs
    rw [List.getElem?_map, List.getElem?_append_left (by simp)]
    simp
  · rw [if_neg hj]
    unfold ms0 zs
    rw [List.getElem?_map, List.getElem?_map]
    congr 1
    rw [e2]
    rcases Nat.lt_or_ge j q with g | g
    · rw [List.getElem?_append_left (by simpa using g), List.getElem?_append_left (by simp; omega)]; rw [List.getElem?_replicate, List.getElem?_replicate, if_pos (by omega), if_pos (by omega)]
    · rw [List.getElem?_append_right (by simpa using g), List.getElem?_append_right (by simp; omega), List.length_replicate, List.length_replicate, show j - q = (j - (q + 1)) + 1 by omega, List.getElem?_cons_succ]
theorem zs_zero (vs : List Int) : zs vs 0 = vs := by unfold zs; simp
theorem zs_all (vs : List Int) : zs vs vs.length = List.replicate vs.length 0 := by unfold zs; simp
theorem isNB_ok {L : List Asn} {x : Int} :
    CallS Try.prog 43 [.int .i64 x].toArray L (fun v M => v = .bool (decide (isNB x)) ∧ M = L) := by
  refine CallS.ent ?_
  refine CallS.enter Try.func43 rfl rfl rfl rfl rfl ?_
  refine J.seq rfl ?_
  refine J.region rfl ?_
  refine JO.pur rfl rfl rfl (Pur.assign rfl) ?_
  refine JO.nil ?_
  refine J.seq rfl ?_
  refine J.region rfl ?_
  refine JO.pur rfl rfl rfl (Pur.move rfl) ?_
  refine JO.pur rfl rfl rfl (Pur.neqI rfl rfl) ?_
  refine JO.pur rfl rfl rfl (Pur.move rfl) ?_
  refine JO.splitB 5 rfl (fun h5 => ?_) (fun h5 => ?_)
  · try simp only [bSimp, bSimp2, ne_eq] at h5
    refine JO.pur rfl rfl rfl (Pur.move rfl) ?_
    refine JO.pur rfl rfl rfl (Pur.neqI rfl rfl) ?_
    refine JO.pur rfl rfl rfl (Pur.pickT rfl rfl) ?_
    refine JO.pur rfl rfl rfl (Pur.assign rfl) ?_
    refine JO.nil ?_
    refine J.ret rfl rfl ?_
    refine ⟨_, _, ⟨rfl, rfl⟩, congrArg Value.bool (by first | exact (decide_eq_false (by unfold isNB; omega)).symm | (apply decide_eq_decide.2; unfold isNB; omega)), SubC.out⟩
  · try simp only [bSimp, bSimp2, ne_eq] at h5
    refine JO.no rfl rfl rfl ?_
    refine JO.no rfl rfl rfl ?_
    refine JO.pur rfl rfl rfl (Pur.pickF rfl rfl) ?_
    refine JO.pur rfl rfl rfl (Pur.assign rfl) ?_
    refine JO.nil ?_
    refine J.ret rfl rfl ?_
    refine ⟨_, _, ⟨rfl, rfl⟩, congrArg Value.bool (by first | exact (decide_eq_false (by unfold isNB; omega)).symm | (apply decide_eq_decide.2; unfold isNB; omega)), SubC.out⟩

theorem idxNB_ok {L : List Asn} {sa : Option Addr} {n cap : Nat} {vs : List Int} [SlIn intE L sa vs] (hn : n = vs.length) (hs : vs.length ≤ 1000000) :
    CallS Try.prog 78 [.slice sa n cap, .func (.func 43) #[] #[]].toArray L (fun v M => ∃ z : Int, v = .int .i64 z ∧ (0 ≤ z ↔ ∃ x ∈ vs, isNB x) ∧ M = L) := by
  subst hn
  refine CallS.ent ?_
  refine CallS.enter Try.func78 rfl rfl rfl rfl rfl ?_
  refine J.seq rfl ?_
  refine J.region rfl ?_
  refine JO.pur rfl rfl rfl (Pur.assign rfl) ?_
  refine JO.nil ?_
  refine J.seq rfl ?_
  refine J.seq rfl ?_
  refine J.region rfl ?_
  refine JO.pur rfl rfl rfl (Pur.move rfl) ?_
  refine JO.pur rfl rfl rfl (Pur.len rfl) ?_
  refine JO.pur rfl rfl rfl (Pur.move rfl) ?_
  refine JO.nil ?_
  refine J.block rfl ?_
  refine J.loopF (ι := Nat) (fun q => q ≤ vs.length ∧ ∀ j x, j < q → vs[j]? = some x → ¬ isNB x) (fun q => [(8, .int .i64 (q : Int))]) [(0, _), (1, _), (7, _)] (fun q => L) (fun q => vs.length - q) 0 rfl (.cons rfl rfl (.cons rfl rfl (.cons rfl rfl .nil))) (.cons rfl rfl .nil) (by first | exact fun _ h => h | exact SubC.out | (dsimp only; exact SubC.out)) ⟨Nat.zero_le _, fun j x hj => absurd hj (Nat.not_lt_zero j)⟩ ?_
  rintro q ⟨hq, hno⟩ ihq
  try dsimp only
  refine J.seq rfl ?_
  refine J.region rfl ?_
  refine JO.pur rfl rfl rfl (Pur.lss rfl rfl) ?_
  refine JO.nil ?_
  refine J.seq rfl ?_
  refine J.splitB 9 rfl (fun h9 => ?_) (fun h9 => ?_)
  · try simp only [bSimp, bSimp2, ne_eq] at h9
    have hql : q < vs.length := by omega
    obtain ⟨x, hX⟩ : ∃ x, vs[q]? = some x := ⟨_, List.getElem?_eq_getElem hql⟩
    refine J.condT rfl rfl ?_
    refine J.skip rfl ?_
    refine J.seq rfl ?_
    refine J.block rfl ?_
    refine J.seq rfl ?_
    refine J.region rfl ?_
    refine JO.pur rfl rfl rfl (Pur.move rfl) ?_
    refine JO.pur rfl rfl rfl (Pur.assign rfl) ?_
    refine JO.nil ?_
    refine J.seq rfl ?_
    refine J.region rfl ?_
    refine JO.pur rfl rfl rfl (Pur.move rfl) ?_
    refine JO.pur rfl rfl rfl (Pur.move rfl) ?_
    refine JO.pur rfl rfl rfl (Pur.move rfl) ?_
    refine JO.pur rfl rfl rfl (Pur.idx rfl rfl rfl (by first | rfl | (simp; done) | omega) rfl (by omega)) ?_
    refine JO.pur rfl rfl rfl (Pur.load rfl (CellIn.el0 rfl hX rfl)) ?_
    refine JO.setv (u' := .int .i64 x) 15 rfl rfl ?_
    refine JO.effR rfl rfl rfl (Eff.callV rfl rfl (isNB_ok (x := x))) ?_
    refine JO.nil ?_
    refine J.splitB 16 rfl (fun h16 => ?_) (fun h16 => ?_)
    · try simp only [bSimp, bSimp2, ne_eq] at h16
      have hin : ∃ v ∈ vs, isNB v := ⟨x, List.mem_of_getElem? hX, h16⟩
      refine J.condT rfl rfl ?_
      refine J.seq rfl ?_
      refine J.region rfl ?_
      refine JO.pur rfl rfl rfl (Pur.move rfl) ?_
      refine JO.pur rfl rfl rfl (Pur.assign rfl) ?_
      refine JO.nil ?_
      refine J.ret rfl rfl ?_
      refine ⟨_, _, ⟨_, rfl, ⟨fun _ => hin, fun _ => by omega⟩, rfl⟩, rfl, SubC.out⟩
    · try simp only [bSimp, bSimp2, ne_eq] at h16
      have hno2 : ∀ j y, j < q + 1 → vs[j]? = some y → ¬ isNB y := fun j y hj hy => by
        rcases Nat.lt_or_ge j q with h | h
        · exact hno j y h hy
        · obtain rfl : j = q := by omega
          rw [hX] at hy; rw [← Option.some.inj hy]; exact h16
      refine J.condF rfl rfl ?_
      refine J.skip rfl ?_
      refine J.inBlock ?_
      refine J.region rfl ?_
      refine JO.pur rfl rfl rfl (Pur.add rfl rfl (wr64 (by omega))) ?_
      refine JO.pur rfl rfl rfl (Pur.move rfl) ?_
      refine JO.nil ?_
      exact J.weaken (.cons rfl (congrArg (Value.int .i64) (by first | rfl | (dsimp only; omega))) (.cons rfl rfl (.cons rfl rfl (.cons rfl rfl .nil)))) (by first | exact fun _ h => h | exact SubC.out | (dsimp only; exact SubC.out)) (ihq (q + 1) ⟨by omega, hno2⟩ (by omega))
  · try simp only [bSimp, bSimp2, ne_eq] at h9
    have hni : ¬ ∃ v ∈ vs, isNB v := fun ⟨v, hv, hb⟩ => by obtain ⟨j, hj, e⟩ := List.getElem_of_mem hv; exact hno j v (by omega) (by rw [List.getElem?_eq_getElem hj, e]) hb
    refine J.condF rfl rfl ?_
    refine J.exit rfl rfl ?_
    refine J.seq rfl ?_
    refine J.region rfl ?_
    refine JO.pur rfl rfl rfl (Pur.assign rfl) ?_
    refine JO.nil ?_
    refine J.ret rfl rfl ?_
    refine ⟨_, _, ⟨_, rfl, ⟨fun g => absurd g (by decide), fun g => absurd g hni⟩, rfl⟩, rfl, SubC.out⟩

theorem hasNB_ok {L : List Asn} {sa : Option Addr} {n cap : Nat} {vs : List Int} [SlIn intE L sa vs] (hn : n = vs.length) (hs : vs.length ≤ 1000000) :
    CallS Try.prog 42 [.slice sa n cap, .func (.func 43) #[] #[]].toArray L (fun v M => v = .bool (decide (∃ x ∈ vs, isNB x)) ∧ M = L) := by
  subst hn
  refine CallS.ent ?_
  refine CallS.enter Try.func42 rfl rfl rfl rfl rfl ?_
  refine J.seq rfl ?_
  refine J.region rfl ?_
  refine JO.pur rfl rfl rfl (Pur.assign rfl) ?_
  refine JO.nil ?_
  refine J.seq rfl ?_
  refine J.region rfl ?_
  refine JO.pur rfl rfl rfl (Pur.move rfl) ?_
  refine JO.pur rfl rfl rfl (Pur.move rfl) ?_
  refine JO.eff rfl rfl rfl (Eff.call rfl (idxNB_ok (vs := vs) rfl hs)) ?_
  rintro _ _ ⟨z, rfl, hz, rfl⟩
  refine JO.pur rfl rfl rfl (Pur.geq rfl rfl) ?_
  refine JO.pur rfl rfl rfl (Pur.assign rfl) ?_
  refine JO.nil ?_
  refine J.ret rfl rfl ?_
  refine ⟨_, _, ⟨rfl, rfl⟩, congrArg Value.bool (decide_eq_decide.2 hz), SubC.out⟩

theorem newG_ok {L : List Asn} {va : Option Addr} {n cap : Nat} {k o : ByteArray} {root : Int} {vs : List Int} [SlIn intE L va vs] (hn : n = vs.length) :
    CallS Try.prog 10 [.string k, .string o, .int .i64 root, .slice va n cap].toArray L (fun v M => (¬ goodN k o root vs ∧ v = .tuple #[.pointer none, .int .i64 2] ∧ M = L) ∨ (goodN k o root vs ∧ ∃ p am cm bs, v = .tuple #[.pointer (some ⟨p, 0, none⟩), .int .i64 0] ∧ M = GB p am cm bs (newG k o root vs) :: L)) := by
  subst hn
  refine CallS.ent ?_
  refine CallS.enter Try.func10 rfl rfl rfl rfl rfl ?_
  refine J.seq rfl ?_
  refine J.region rfl ?_
  refine JO.pur rfl rfl rfl (Pur.assign rfl) ?_
  refine JO.pur rfl rfl rfl (Pur.assign rfl) ?_
  refine JO.nil ?_
  refine J.seq rfl ?_
  refine J.region rfl ?_
  refine JO.pur rfl rfl rfl (Pur.move rfl) ?_
  refine JO.effR rfl rfl rfl (Eff.call rfl (pNone_ok (t := o))) ?_
  refine JO.setv (u' := .tuple #[.int .i64 (if o ∈ opsL then nonV o else 0), .int .i64 (if o ∈ opsL then 0 else 2)]) 20 rfl (by split <;> rfl) ?_
  refine JO.pur rfl rfl rfl (Pur.move rfl) ?_
  refine JO.pur rfl rfl rfl (Pur.extract rfl rfl) ?_
  refine JO.pur rfl rfl rfl (Pur.extract rfl rfl) ?_
  refine JO.pur rfl rfl rfl (Pur.assign rfl) ?_
  refine JO.pur rfl rfl rfl (Pur.assign rfl) ?_
  refine JO.nil ?_
  refine J.seq rfl ?_
  refine J.region rfl ?_
  refine JO.pur rfl rfl rfl (Pur.move rfl) ?_
  refine JO.pur rfl rfl rfl (Pur.len rfl) ?_
  refine JO.pur rfl rfl rfl (Pur.assign rfl) ?_
  refine JO.nil ?_
  refine J.seq rfl ?_
  refine J.seq rfl ?_
  refine J.cut2 (ι := Unit) (fun q => okN k o root vs) (fun q => []) [(0, _), (1, _), (2, _), (3, _)] (fun q => L) (.cons rfl rfl (.cons rfl rfl (.cons rfl rfl (.cons rfl rfl .nil)))) ?_ ?_
  · rintro - hok
    try dsimp only
    obtain ⟨hka, hoa, ⟨h1, h8⟩, hra⟩ := hok
    refine J.seq rfl ?_
    refine J.cut1 (ι := Unit) (fun q => True) (fun q => [(13, .bool (decide (needN k)))]) [(0, _), (1, _), (2, _), (3, _)] (fun q => L) (.cons rfl rfl (.cons rfl rfl (.cons rfl rfl (.cons rfl rfl .nil)))) ?_ ?_
    · rintro - -
      try dsimp only
      refine J.seq rfl ?_
      refine J.seq rfl ?_
      refine J.cut2 (ι := Unit) (fun q => ¬ boolN k o vs) (fun q => []) [(0, _), (1, _), (2, _), (3, _)] (fun q => L) (.cons rfl rfl (.cons rfl rfl (.cons rfl rfl (.cons rfl rfl .nil)))) ?_ ?_
      · rintro - hnb
        try dsimp only
        refine J.seq rfl ?_
        refine J.region rfl ?_
        refine JO.pur rfl rfl rfl (Pur.move rfl) ?_
        refine JO.pur rfl rfl rfl (Pur.move rfl) ?_
        refine JO.pur rfl rfl rfl (Pur.move rfl) ?_
        refine JO.pur rfl rfl rfl (Pur.build (cs := [_, _, _, _, _, _]) rfl rfl) ?_
        refine JO.eff rfl rfl rfl (Eff.box (cs := [_, _, _, _, _, _]) rfl rfl) ?_
        rintro _ _ ⟨b77, rfl, rfl⟩
        refine JO.pur rfl rfl rfl (Pur.assign rfl) ?_
        refine JO.nil ?_
        refine J.seq rfl ?_
        refine J.seq rfl ?_
        refine J.region rfl ?_
        refine JO.pur rfl rfl rfl (Pur.move rfl) ?_
        refine JO.pur rfl rfl rfl (Pur.len rfl) ?_
        refine JO.pur rfl rfl rfl (Pur.move rfl) ?_
        refine JO.nil ?_
        refine J.block rfl ?_
        refine J.loopF (ι := Nat × Option Addr × Nat × List Nat) (fun q => q.1 ≤ vs.length ∧ q.2.2.2.length = q.1) (fun q => [(80, .int .i64 (q.1 : Int))]) [(0, _), (14, _), (78, _), (79, _)] (fun q => blk b77 (.cells #[.string k, .string o, .int .i64 root, .slice q.2.1 q.1 q.2.2.1, .slice none 0 0, .int .i64 0] 47) :: sl memE q.2.1 q.2.2.1 ((ms0 (vs.take (q.1))).zip q.2.2.2) :: star (List.zipWith mpA q.2.2.2 (ms0 (vs.take (q.1)))) :: L) (fun q => vs.length - q.1) (0, none, 0, []) rfl (.cons rfl rfl (.cons rfl rfl (.cons rfl rfl (.cons rfl rfl .nil)))) (.cons rfl rfl .nil) (fun h s => by have s2 := sl_nil_new (E := memE) (zw_nil (A := mpA) s); have s3 : Sat h (blk b77 (.cells #[.string k, .string o, .int .i64 root, .slice none 0 0, .slice none 0 0, .int .i64 0] 47) :: sl memE none 0 [] :: star (List.zipWith mpA [] []) :: L) := SubC.out (L := sl memE none 0 [] :: star (List.zipWith mpA [] []) :: _) h s2; exact s3) ⟨Nat.zero_le _, rfl⟩ ?_
        rintro ⟨k_, am, cm, bs⟩ ⟨hk, hbl⟩ ihk
        try dsimp only
        dsimp only at hk hbl
        have hml : (ms0 (vs.take k_)).length = k_ := by rw [ms0_len, List.length_take]; omega
        have hzl : ((ms0 (vs.take k_)).zip bs).length = k_ := by rw [List.length_zip]; omega
        refine J.seq rfl ?_
        refine J.region rfl ?_
        refine JO.pur rfl rfl rfl (Pur.lss rfl rfl) ?_
        refine JO.nil ?_
        refine J.seq rfl ?_
        refine J.splitB 81 rfl (fun h81 => ?_) (fun h81 => ?_)
        · try simp only [bSimp, bSimp2, ne_eq] at h81
          have hkl : k_ < vs.length := by omega
          obtain ⟨x, hX⟩ : ∃ x, vs[k_]? = some x := ⟨_, List.getElem?_eq_getElem hkl⟩
          have htk : vs.take (k_ + 1) = vs.take k_ ++ [x] := take_get hX
          have hms : ms0 (vs.take (k_ + 1)) = ms0 (vs.take k_) ++ [⟨x, 0, [], false, 0⟩] := by rw [htk]; simp [ms0]
          refine J.condT rfl rfl ?_
          refine J.skip rfl ?_
          refine J.seq rfl ?_
          refine J.block rfl ?_
          refine J.seq rfl ?_
          refine J.region rfl ?_
          refine JO.pur rfl rfl rfl (Pur.idx rfl rfl rfl (by first | rfl | (simp; done) | omega | (rw [List.length_zip, zs_len (by omega)]; omega)) rfl (by omega)) ?_
          refine JO.pur rfl rfl rfl (Pur.load rfl (CellIn.el0 rfl hX rfl)) ?_
          refine JO.pur rfl rfl rfl (Pur.assign rfl) ?_
          refine JO.nil ?_
          refine J.region rfl ?_
          refine JO.pur rfl rfl rfl (Pur.move rfl) ?_
          refine JO.pur rfl rfl rfl (Pur.move rfl) ?_
          refine JO.pur rfl rfl rfl (Pur.nilCheck rfl) ?_
          refine JO.pur rfl rfl rfl (Pur.fieldAddr rfl) ?_
          refine JO.pur rfl rfl rfl (Pur.load rfl (CellIn.blk rfl)) ?_
          refine JO.pur rfl rfl rfl (Pur.move rfl) ?_
          refine JO.eff rfl rfl rfl (Eff.makeMap intK) ?_
          rintro _ _ ⟨b90, rfl, rfl⟩
          refine JO.pur rfl rfl rfl (Pur.build (cs := [_, _, _, _, _]) rfl rfl) ?_
          refine JO.eff rfl rfl rfl (Eff.buildSlice memE [((⟨x, 0, [], false, 0⟩ : Mm), b90)] rfl rfl rfl rfl rfl rfl rfl) ?_
          rintro _ _ ⟨b92, rfl, -, rfl⟩
          refine JO.eff rfl rfl rfl (Eff.append rfl rfl rfl rfl (by first | rfl | omega | (simp; done) | (simp; omega)) (by first | rfl | omega | (simp; done) | (simp; omega)) (by decide) (by rw [hzl]; simp; omega) (by rw [hzl]; simp; omega) (fun h => by cases h)) ?_
          rintro _ _ ⟨a93, c93, rfl, rfl⟩
          refine JO.setv (u' := .slice a93 (k_ + 1) c93) 93 rfl (by rw [hzl]; rfl) ?_
          have hzp : (ms0 (vs.take k_) ++ [(⟨x, 0, [], false, 0⟩ : Mm)]).zip (bs ++ [b90]) = (ms0 (vs.take k_)).zip bs ++ [(⟨x, 0, [], false, 0⟩, b90)] := by rw [List.zip_append (hml.trans hbl.symm)]; rfl
          refine JO.pur rfl rfl rfl (Pur.nilCheck rfl) ?_
          refine JO.pur rfl rfl rfl (Pur.fieldAddr rfl) ?_
          refine JO.effN rfl rfl (Eff.storeB rfl rfl rfl (.tail (.tail (.tail .head)))) ?_
          rintro _ _ ⟨rfl, rfl⟩
          refine JO.nil ?_
          refine J.inBlock ?_
          refine J.region rfl ?_
          refine JO.pur rfl rfl rfl (Pur.add rfl rfl (wr64 (by omega))) ?_
          refine JO.pur rfl rfl rfl (Pur.move rfl) ?_
          refine JO.nil ?_
          exact J.weaken (.cons rfl (congrArg (Value.int .i64) (by first | rfl | (dsimp only; omega))) (.cons rfl rfl (.cons rfl rfl (.cons rfl rfl (.cons rfl rfl .nil))))) (fun h s => by have s1 : Sat h (mp intK b90 [] :: star (List.zipWith mpA bs (ms0 (vs.take k_))) :: blk b77 (.cells #[.string k, .string o, .int .i64 root, .slice a93 (k_ + 1) c93, .slice none 0 0, .int .i64 0] 47) :: sl memE a93 c93 ((ms0 (vs.take k_)).zip bs ++ [((⟨x, 0, [], false, 0⟩ : Mm), b90)]) :: L) := SubC.out h s; have s2 : Sat h (mpA b90 ⟨x, 0, [], false, 0⟩ :: star (List.zipWith mpA bs (ms0 (vs.take k_))) :: blk b77 (.cells #[.string k, .string o, .int .i64 root, .slice a93 (k_ + 1) c93, .slice none 0 0, .int .i64 0] 47) :: sl memE a93 c93 ((ms0 (vs.take k_)).zip bs ++ [((⟨x, 0, [], false, 0⟩ : Mm), b90)]) :: L) := s1; have s3 := zw_snoc (A := mpA) (hbl.trans hml.symm) s2; dsimp only; rw [hms, hzp]; exact SubC.out h s3) (ihk (k_ + 1, a93, c93, bs ++ [b90]) ⟨by dsimp only; omega, by dsimp only; simp [hbl]⟩ (by dsimp only; omega))
        · try simp only [bSimp, bSimp2, ne_eq] at h81
          have hke : k_ = vs.length := by omega
          subst hke
          rw [List.take_length]
          refine J.condF rfl rfl ?_
          refine J.exit rfl rfl ?_
          refine J.seq rfl ?_
          refine J.seq rfl ?_
          refine J.cut2 (ι := Unit) (fun q => True) (fun q => []) [(14, _)] (fun q => GB b77 am cm bs (g0 k o root vs) :: L) (.cons rfl rfl .nil) ?_ ?_
          · rintro - -
            try dsimp only
            refine J.seq rfl ?_
            refine J.region rfl ?_
            refine JO.pur rfl rfl rfl (Pur.move rfl) ?_
            refine JO.eff rfl rfl rfl (Eff.call rfl (beginG_ok (g := g0 k o root vs) (wf_g0 h1 h8) (by rw [(g0_kind k o root vs).1, (g0_kind k o root vs).2.1, g0_len]; exact hra) (g0_op hoa) (by rw [(g0_kind k o root vs).2.2.1]; simp))) ?_
            rintro _ _ ⟨rfl, rfl⟩
            refine JO.nil ?_
            refine J.seq rfl ?_
            refine J.region rfl ?_
            refine JO.pur rfl rfl rfl (Pur.move rfl) ?_
            refine JO.pur rfl rfl rfl (Pur.assign rfl) ?_
            refine JO.pur rfl rfl rfl (Pur.assign rfl) ?_
            refine JO.nil ?_
            refine J.ret rfl rfl ?_
            first
            | exact ⟨_, _, .inl ⟨hbad, rfl, rfl⟩, rfl, SubC.out⟩
            | (refine ⟨_, _, .inr ⟨⟨⟨hka, hoa, ⟨h1, h8⟩, hra⟩, hnb⟩, b77, am, cm, bs, rfl, rfl⟩, rfl, fun h s => ?_⟩; show Sat h (GB b77 am cm bs (beginG (g0 k o root vs)) :: L); exact SubC.out h s)
          · intro cuta14
            refine J.region rfl ?_
            refine JO.pur rfl rfl rfl (Pur.move rfl) ?_
            refine JO.pur rfl rfl rfl (Pur.eqlT rfl rfl) ?_
            refine JO.nil ?_
            refine J.splitB 98 rfl (fun h98 => ?_) (fun h98 => ?_)
            · try simp only [bSimp, bSimp2, ne_eq] at h98
              have hkb : k = sBar := h98
              have hg0 : g0 k o root vs = ⟨k, ⟨#[43]⟩, root, ms0 (List.replicate vs.length 0), [], 0⟩ := if_pos hkb
              refine J.condT rfl rfl ?_
              refine J.seq rfl ?_
              refine J.region rfl ?_
              refine JO.pur rfl rfl rfl (Pur.move rfl) ?_
              refine JO.pur rfl rfl rfl (Pur.nilCheck rfl) ?_
              refine JO.pur rfl rfl rfl (Pur.fieldAddr rfl) ?_
              refine JO.effN rfl rfl (Eff.storeB rfl rfl rfl (.tail .head)) ?_
              rintro _ _ ⟨rfl, rfl⟩
              refine JO.nil ?_
              refine J.seq rfl ?_
              refine J.region rfl ?_
              refine JO.pur rfl rfl rfl (Pur.move rfl) ?_
              refine JO.pur rfl rfl rfl (Pur.nilCheck rfl) ?_
              refine JO.pur rfl rfl rfl (Pur.fieldAddr rfl) ?_
              refine JO.pur rfl rfl rfl (Pur.load rfl (CellIn.blk rfl)) ?_
              refine JO.pur rfl rfl rfl (Pur.len rfl) ?_
              refine JO.pur rfl rfl rfl (Pur.move rfl) ?_
              refine JO.nil ?_
              refine J.block rfl ?_
              refine J.loopF (ι := Nat) (fun q => q ≤ vs.length) (fun q => [(107, .int .i64 (q : Int))]) [(14, _), (106, _)] (fun q => blk b77 (.cells #[.string k, .string ⟨#[43]⟩, .int .i64 root, .slice am vs.length cm, .slice none 0 0, .int .i64 0] 47) :: sl memE am cm ((ms0 (zs vs q)).zip bs) :: star (List.zipWith mpA bs (ms0 (zs vs q))) :: L) (fun q => vs.length - q) 0 rfl (.cons rfl rfl (.cons rfl rfl .nil)) (.cons rfl rfl .nil) (fun h s => by rw [zs_zero]; exact SubC.out h s) (Nat.zero_le _) ?_
              rintro q hq ihq
              try dsimp only
              refine J.seq rfl ?_
              refine J.region rfl ?_
              refine JO.pur rfl rfl rfl (Pur.lss rfl rfl) ?_
              refine JO.nil ?_
              refine J.seq rfl ?_
              refine J.splitB 108 rfl (fun h108 => ?_) (fun h108 => ?_)
              · try simp only [bSimp, bSimp2, ne_eq] at h108
                have hql : q < vs.length := by omega
                obtain ⟨x, hX⟩ : ∃ x, vs[q]? = some x := ⟨_, List.getElem?_eq_getElem hql⟩
                have hmq := zs_get hX
                obtain ⟨b, hbi⟩ : ∃ b, bs[q]? = some b := ⟨_, List.getElem?_eq_getElem (by omega)⟩
                have hzq := zip_get hmq hbi
                have hzl := zs_len (vs := vs) (q := q) hq
                refine J.condT rfl rfl ?_
                refine J.skip rfl ?_
                refine J.seq rfl ?_
                refine J.block rfl ?_
                refine J.seq rfl ?_
                refine J.region rfl ?_
                refine JO.pur rfl rfl rfl (Pur.move rfl) ?_
                refine JO.pur rfl rfl rfl (Pur.assign rfl) ?_
                refine JO.nil ?_
                refine J.region rfl ?_
                refine JO.pur rfl rfl rfl (Pur.move rfl) ?_
                refine JO.pur rfl rfl rfl (Pur.nilCheck rfl) ?_
                refine JO.pur rfl rfl rfl (Pur.fieldAddr rfl) ?_
                refine JO.pur rfl rfl rfl (Pur.load rfl (CellIn.blk rfl)) ?_
                refine JO.pur rfl rfl rfl (Pur.move rfl) ?_
                refine JO.pur rfl rfl rfl (Pur.idx rfl rfl rfl (by first | rfl | (simp; done) | omega | (rw [List.length_zip, zs_len (by omega)]; omega)) rfl (by rw [List.length_zip]; omega)) ?_
                refine JO.pur rfl rfl rfl (Pur.fieldAddr rfl) ?_
                refine JO.effN rfl rfl (Eff.storeS (z' := (⟨0, 0, [], false, 0⟩, b)) rfl rfl rfl rfl hzq .head) ?_
                rintro _ _ ⟨rfl, rfl⟩
                refine JO.nil ?_
                refine J.inBlock ?_
                refine J.region rfl ?_
                refine JO.pur rfl rfl rfl (Pur.add rfl rfl (wr64 (by omega))) ?_
                refine JO.pur rfl rfl rfl (Pur.move rfl) ?_
                refine JO.nil ?_
                exact J.weaken (.cons rfl (congrArg (Value.int .i64) (by first | rfl | (dsimp only; omega))) (.cons rfl rfl (.cons rfl rfl .nil))) (fun h s => by rw [zip_set hbi, zs_set hX, ← mp_same (bs := bs) (m' := ⟨0, 0, [], false, 0⟩) hmq rfl, zs_set hX] at s; exact SubC.out h s) (ihq (q + 1) (by omega) (by omega))
              · try simp only [bSimp, bSimp2, ne_eq] at h108
                have hqe : q = vs.length := by omega
                rw [hqe, zs_all]
                refine J.condF rfl rfl ?_
                refine J.exit rfl rfl ?_
                exact J.weaken (.cons rfl rfl .nil) (fun h s => by have s2 := sl_nil_new (E := msgE) s; have s3 : Sat h (blk b77 (.cells #[.string k, .string ⟨#[43]⟩, .int .i64 root, .slice am vs.length cm, .slice none 0 0, .int .i64 0] 47) :: sl memE am cm ((ms0 (List.replicate vs.length 0)).zip bs) :: sl msgE none 0 [] :: star (List.zipWith mpA bs (ms0 (List.replicate vs.length 0))) :: L) := SubC.out h s2; rw [hg0]; generalize hZ : List.replicate vs.length (0 : Int) = Z at s3 ⊢; have e8 : Z.length = vs.length := (by rw [← hZ]; simp); have e9 : vs.length = (ms0 Z).length := (by rw [← hZ]; simp [ms0]); rw [e9] at s3; exact GB_mk (g := ⟨k, ⟨#[43]⟩, root, ms0 Z, [], 0⟩) (af := none) (cf := 0) (hbl.trans e9) s3) (cuta14 () trivial)
            · try simp only [bSimp, bSimp2, ne_eq] at h98
              have hkb : ¬ k = sBar := h98
              have hg0 : g0 k o root vs = ⟨k, o, root, ms0 vs, [], 0⟩ := if_neg hkb
              refine J.condF rfl rfl ?_
              refine J.skip rfl ?_
              exact J.weaken (.cons rfl rfl .nil) (fun h s => by have s2 := sl_nil_new (E := msgE) s; have s3 : Sat h (blk b77 (.cells #[.string k, .string o, .int .i64 root, .slice am vs.length cm, .slice none 0 0, .int .i64 0] 47) :: sl memE am cm ((ms0 vs).zip bs) :: sl msgE none 0 [] :: star (List.zipWith mpA bs (ms0 vs)) :: L) := SubC.out h s2; rw [hg0]; have e9 : vs.length = (ms0 vs).length := (by simp [ms0]); rw [e9] at s3; exact GB_mk (g := ⟨k, o, root, ms0 vs, [], 0⟩) (af := none) (cf := 0) (hbl.trans e9) s3) (cuta14 () trivial)
      · intro cuta6
        refine J.region rfl ?_
        refine JO.pur rfl rfl rfl (Pur.move rfl) ?_
        refine JO.pur rfl rfl rfl (Pur.move rfl) ?_
        refine JO.splitB 61 rfl (fun h61 => ?_) (fun h61 => ?_)
        · try simp only [bSimp, bSimp2, ne_eq] at h61
          refine JO.pur rfl rfl rfl (Pur.move rfl) ?_
          refine JO.pur rfl rfl rfl (Pur.eqlT rfl rfl) ?_
          refine JO.pur rfl rfl rfl (Pur.move rfl) ?_
          refine JO.splitB 64 rfl (fun h64 => ?_) (fun h64 => ?_)
          · try simp only [bSimp, bSimp2, ne_eq] at h64
            refine JO.no rfl rfl rfl ?_
            refine JO.no rfl rfl rfl ?_
            refine JO.pur rfl rfl rfl (Pur.pickT rfl rfl) ?_
            refine JO.pur rfl rfl rfl (Pur.pickT rfl rfl) ?_
            refine JO.pur rfl rfl rfl (Pur.move rfl) ?_
            refine JO.pur rfl rfl rfl (Pur.move rfl) ?_
            refine JO.effR rfl rfl rfl (Eff.call rfl (hasNB_ok (vs := vs) rfl (by omega))) ?_
            refine JO.pur rfl rfl rfl (Pur.pickT rfl rfl) ?_
            refine JO.nil ?_
            refine J.splitB 72 rfl (fun h72 => ?_) (fun h72 => ?_)
            · try simp only [bSimp, bSimp2, ne_eq] at h72
              have hbad : ¬ goodN k o root vs := fun g => g.2 (by unfold boolN; simp_all)
              refine J.condT rfl rfl ?_
              refine J.seq rfl ?_
              refine J.region rfl ?_
              refine JO.pur rfl rfl rfl (Pur.assign rfl) ?_
              refine JO.pur rfl rfl rfl (Pur.assign rfl) ?_
              refine JO.nil ?_
              refine J.ret rfl rfl ?_
              first
              | exact ⟨_, _, .inl ⟨hbad, rfl, rfl⟩, rfl, SubC.out⟩
              | (refine ⟨_, _, .inr ⟨⟨⟨hka, hoa, ⟨h1, h8⟩, hra⟩, hnb⟩, b77, am, cm, bs, rfl, rfl⟩, rfl, fun h s => ?_⟩; show Sat h (GB b77 am cm bs (beginG (g0 k o root vs)) :: L); exact SubC.out h s)
            · try simp only [bSimp, bSimp2, ne_eq] at h72
              refine J.condF rfl rfl ?_
              refine J.skip rfl ?_
              have hnb : ¬ boolN k o vs := by intro g; unfold boolN at g; simp_all
              exact J.weaken (.cons rfl rfl (.cons rfl rfl (.cons rfl rfl (.cons rfl rfl .nil)))) (by first | exact fun _ h => h | exact SubC.out | (dsimp only; exact SubC.out)) (cuta6 () hnb)
          · try simp only [bSimp, bSimp2, ne_eq] at h64
            refine JO.pur rfl rfl rfl (Pur.move rfl) ?_
            refine JO.pur rfl rfl rfl (Pur.eqlT rfl rfl) ?_
            refine JO.pur rfl rfl rfl (Pur.pickF rfl rfl) ?_
            refine JO.pur rfl rfl rfl (Pur.pickT rfl rfl) ?_
            refine JO.pur rfl rfl rfl (Pur.move rfl) ?_
            refine JO.splitB 69 rfl (fun h69 => ?_) (fun h69 => ?_)
            · try simp only [bSimp, bSimp2, ne_eq] at h69
              refine JO.pur rfl rfl rfl (Pur.move rfl) ?_
              refine JO.effR rfl rfl rfl (Eff.call rfl (hasNB_ok (vs := vs) rfl (by omega))) ?_
              refine JO.pur rfl rfl rfl (Pur.pickT rfl rfl) ?_
              refine JO.nil ?_
              refine J.splitB 72 rfl (fun h72 => ?_) (fun h72 => ?_)
              · try simp only [bSimp, bSimp2, ne_eq] at h72
                have hbad : ¬ goodN k o root vs := fun g => g.2 (by unfold boolN; simp_all)
                refine J.condT rfl rfl ?_
                refine J.seq rfl ?_
                refine J.region rfl ?_
                refine JO.pur rfl rfl rfl (Pur.assign rfl) ?_
                refine JO.pur rfl rfl rfl (Pur.assign rfl) ?_
                refine JO.nil ?_
                refine J.ret rfl rfl ?_
                first
                | exact ⟨_, _, .inl ⟨hbad, rfl, rfl⟩, rfl, SubC.out⟩
                | (refine ⟨_, _, .inr ⟨⟨⟨hka, hoa, ⟨h1, h8⟩, hra⟩, hnb⟩, b77, am, cm, bs, rfl, rfl⟩, rfl, fun h s => ?_⟩; show Sat h (GB b77 am cm bs (beginG (g0 k o root vs)) :: L); exact SubC.out h s)
              · try simp only [bSimp, bSimp2, ne_eq] at h72
                refine J.condF rfl rfl ?_
                refine J.skip rfl ?_
                have hnb : ¬ boolN k o vs := by intro g; unfold boolN at g; simp_all
                exact J.weaken (.cons rfl rfl (.cons rfl rfl (.cons rfl rfl (.cons rfl rfl .nil)))) (by first | exact fun _ h => h | exact SubC.out | (dsimp only; exact SubC.out)) (cuta6 () hnb)
            · try simp only [bSimp, bSimp2, ne_eq] at h69
              refine JO.no rfl rfl rfl ?_
              refine JO.no rfl rfl rfl ?_
              refine JO.pur rfl rfl rfl (Pur.pickF rfl rfl) ?_
              refine JO.nil ?_
              refine J.condF rfl rfl ?_
              refine J.skip rfl ?_
              have hnb : ¬ boolN k o vs := by intro g; unfold boolN at g; simp_all
              exact J.weaken (.cons rfl rfl (.cons rfl rfl (.cons rfl rfl (.cons rfl rfl .nil)))) (by first | exact fun _ h => h | exact SubC.out | (dsimp only; exact SubC.out)) (cuta6 () hnb)
        · try simp only [bSimp, bSimp2, ne_eq] at h61
          refine JO.no rfl rfl rfl ?_
          refine JO.no rfl rfl rfl ?_
          refine JO.no rfl rfl rfl ?_
          refine JO.no rfl rfl rfl ?_
          refine JO.no rfl rfl rfl ?_
          refine JO.no rfl rfl rfl ?_
          refine JO.pur rfl rfl rfl (Pur.pickF rfl rfl) ?_
          refine JO.pur rfl rfl rfl (Pur.move rfl) ?_
          refine JO.no rfl rfl rfl ?_
          refine JO.no rfl rfl rfl ?_
          refine JO.pur rfl rfl rfl (Pur.pickF rfl rfl) ?_
          refine JO.nil ?_
          refine J.condF rfl rfl ?_
          refine J.skip rfl ?_
          have hnb : ¬ boolN k o vs := by intro g; unfold boolN at g; simp_all
          exact J.weaken (.cons rfl rfl (.cons rfl rfl (.cons rfl rfl (.cons rfl rfl .nil)))) (by first | exact fun _ h => h | exact SubC.out | (dsimp only; exact SubC.out)) (cuta6 () hnb)
    · intro cuta5
      refine J.region rfl ?_
      refine JO.pur rfl rfl rfl (Pur.move rfl) ?_
      refine JO.pur rfl rfl rfl (Pur.eqlT rfl rfl) ?_
      refine JO.pur rfl rfl rfl (Pur.move rfl) ?_
      refine JO.splitB 52 rfl (fun h52 => ?_) (fun h52 => ?_)
      · try simp only [bSimp, bSimp2, ne_eq] at h52
        refine JO.no rfl rfl rfl ?_
        refine JO.no rfl rfl rfl ?_
        refine JO.pur rfl rfl rfl (Pur.pickT rfl rfl) ?_
        refine JO.pur rfl rfl rfl (Pur.move rfl) ?_
        refine JO.no rfl rfl rfl ?_
        refine JO.no rfl rfl rfl ?_
        refine JO.pur rfl rfl rfl (Pur.pickT rfl rfl) ?_
        refine JO.pur rfl rfl rfl (Pur.assign rfl) ?_
        refine JO.nil ?_
        exact J.weaken (.cons rfl (congrArg Value.bool (by first | exact (decide_eq_true (by unfold needN sRed sAll sScan; simp_all)).symm | exact (decide_eq_false (by unfold needN sRed sAll sScan; simp_all)).symm | (apply decide_eq_decide.2; unfold needN sRed sAll sScan; simp_all))) (.cons rfl rfl (.cons rfl rfl (.cons rfl rfl (.cons rfl rfl .nil))))) (by first | exact fun _ h => h | exact SubC.out | (dsimp only; exact SubC.out)) (cuta5 () trivial)
      · try simp only [bSimp, bSimp2, ne_eq] at h52
        refine JO.pur rfl rfl rfl (Pur.move rfl) ?_
        refine JO.pur rfl rfl rfl (Pur.eqlT rfl rfl) ?_
        refine JO.pur rfl rfl rfl (Pur.pickF rfl rfl) ?_
        refine JO.pur rfl rfl rfl (Pur.move rfl) ?_
        refine JO.splitB 56 rfl (fun h56 => ?_) (fun h56 => ?_)
        · try simp only [bSimp, bSimp2, ne_eq] at h56
          refine JO.no rfl rfl rfl ?_
          refine JO.no rfl rfl rfl ?_
          refine JO.pur rfl rfl rfl (Pur.pickT rfl rfl) ?_
          refine JO.pur rfl rfl rfl (Pur.assign rfl) ?_
          refine JO.nil ?_
          exact J.weaken (.cons rfl (congrArg Value.bool (by first | exact (decide_eq_true (by unfold needN sRed sAll sScan; simp_all)).symm | exact (decide_eq_false (by unfold needN sRed sAll sScan; simp_all)).symm | (apply decide_eq_decide.2; unfold needN sRed sAll sScan; simp_all))) (.cons rfl rfl (.cons rfl rfl (.cons rfl rfl (.cons rfl rfl .nil))))) (by first | exact fun _ h => h | exact SubC.out | (dsimp only; exact SubC.out)) (cuta5 () trivial)
        · try simp only [bSimp, bSimp2, ne_eq] at h56
          refine JO.pur rfl rfl rfl (Pur.move rfl) ?_
          refine JO.pur rfl rfl rfl (Pur.eqlT rfl rfl) ?_
          refine JO.pur rfl rfl rfl (Pur.pickF rfl rfl) ?_
          refine JO.pur rfl rfl rfl (Pur.assign rfl) ?_
          refine JO.nil ?_
          exact J.weaken (.cons rfl (congrArg Value.bool (by first | exact (decide_eq_true (by unfold needN sRed sAll sScan; simp_all)).symm | exact (decide_eq_false (by unfold needN sRed sAll sScan; simp_all)).symm | (apply decide_eq_decide.2; unfold needN sRed sAll sScan; simp_all))) (.cons rfl rfl (.cons rfl rfl (.cons rfl rfl (.cons rfl rfl .nil))))) (by first | exact fun _ h => h | exact SubC.out | (dsimp only; exact SubC.out)) (cuta5 () trivial)
  · intro cuta3
    refine J.region rfl ?_
    refine JO.pur rfl rfl rfl (Pur.move rfl) ?_
    refine JO.effR rfl rfl rfl (Eff.call rfl (isKind_ok (t := k))) ?_
    refine JO.pur rfl rfl rfl (Pur.not rfl) ?_
    refine JO.pur rfl rfl rfl (Pur.move rfl) ?_
    refine JO.splitB 28 rfl (fun h28 => ?_) (fun h28 => ?_)
    · try simp only [bSimp, bSimp2, ne_eq] at h28
      have hbad : ¬ goodN k o root vs := fun g => by have := g.1.1; simp_all
      refine JO.no rfl rfl rfl ?_
      refine JO.no rfl rfl rfl ?_
      refine JO.pur rfl rfl rfl (Pur.pickT rfl rfl) ?_
      refine JO.pur rfl rfl rfl (Pur.move rfl) ?_
      refine JO.no rfl rfl rfl ?_
      refine JO.no rfl rfl rfl ?_
      refine JO.no rfl rfl rfl ?_
      refine JO.pur rfl rfl rfl (Pur.pickT rfl rfl) ?_
      refine JO.pur rfl rfl rfl (Pur.move rfl) ?_
      refine JO.no rfl rfl rfl ?_
      refine JO.no rfl rfl rfl ?_
      refine JO.no rfl rfl rfl ?_
      refine JO.no rfl rfl rfl ?_
      refine JO.no rfl rfl rfl ?_
      refine JO.no rfl rfl rfl ?_
      refine JO.no rfl rfl rfl ?_
      refine JO.no rfl rfl rfl ?_
      refine JO.no rfl rfl rfl ?_
      refine JO.no rfl rfl rfl ?_
      refine JO.no rfl rfl rfl ?_
      refine JO.pur rfl rfl rfl (Pur.pickT rfl rfl) ?_
      refine JO.nil ?_
      refine J.condT rfl rfl ?_
      refine J.seq rfl ?_
      refine J.region rfl ?_
      refine JO.pur rfl rfl rfl (Pur.assign rfl) ?_
      refine JO.pur rfl rfl rfl (Pur.assign rfl) ?_
      refine JO.nil ?_
      refine J.ret rfl rfl ?_
      first
      | exact ⟨_, _, .inl ⟨hbad, rfl, rfl⟩, rfl, SubC.out⟩
      | (refine ⟨_, _, .inr ⟨⟨⟨hka, hoa, ⟨h1, h8⟩, hra⟩, hnb⟩, b77, am, cm, bs, rfl, rfl⟩, rfl, fun h s => ?_⟩; show Sat h (GB b77 am cm bs (beginG (g0 k o root vs)) :: L); exact SubC.out h s)
    · try simp only [bSimp, bSimp2, ne_eq] at h28
      refine JO.pur rfl rfl rfl (Pur.move rfl) ?_
      refine JO.pur rfl rfl rfl (Pur.neqI rfl rfl) ?_
      refine JO.pur rfl rfl rfl (Pur.pickF rfl rfl) ?_
      refine JO.pur rfl rfl rfl (Pur.move rfl) ?_
      refine JO.splitB 32 rfl (fun h32 => ?_) (fun h32 => ?_)
      · try simp only [bSimp, bSimp2, ne_eq] at h32
        have hbad : ¬ goodN k o root vs := fun g => by have g1 := g.1.2.1; rw [if_pos g1] at h32; exact h32 rfl
        refine JO.no rfl rfl rfl ?_
        refine JO.no rfl rfl rfl ?_
        refine JO.no rfl rfl rfl ?_
        refine JO.pur rfl rfl rfl (Pur.pickT rfl rfl) ?_
        refine JO.pur rfl rfl rfl (Pur.move rfl) ?_
        refine JO.no rfl rfl rfl ?_
        refine JO.no rfl rfl rfl ?_
        refine JO.no rfl rfl rfl ?_
        refine JO.no rfl rfl rfl ?_
        refine JO.no rfl rfl rfl ?_
        refine JO.no rfl rfl rfl ?_
        refine JO.no rfl rfl rfl ?_
        refine JO.no rfl rfl rfl ?_
        refine JO.no rfl rfl rfl ?_
        refine JO.no rfl rfl rfl ?_
        refine JO.no rfl rfl rfl ?_
        refine JO.pur rfl rfl rfl (Pur.pickT rfl rfl) ?_
        refine JO.nil ?_
        refine J.condT rfl rfl ?_
        refine J.seq rfl ?_
        refine J.region rfl ?_
        refine JO.pur rfl rfl rfl (Pur.assign rfl) ?_
        refine JO.pur rfl rfl rfl (Pur.assign rfl) ?_
        refine JO.nil ?_
        refine J.ret rfl rfl ?_
        first
        | exact ⟨_, _, .inl ⟨hbad, rfl, rfl⟩, rfl, SubC.out⟩
        | (refine ⟨_, _, .inr ⟨⟨⟨hka, hoa, ⟨h1, h8⟩, hra⟩, hnb⟩, b77, am, cm, bs, rfl, rfl⟩, rfl, fun h s => ?_⟩; show Sat h (GB b77 am cm bs (beginG (g0 k o root vs)) :: L); exact SubC.out h s)
      · try simp only [bSimp, bSimp2, ne_eq] at h32
        refine JO.pur rfl rfl rfl (Pur.move rfl) ?_
        refine JO.effR rfl rfl rfl (Eff.call rfl (isSize_ok)) ?_
        refine JO.pur rfl rfl rfl (Pur.not rfl) ?_
        refine JO.pur rfl rfl rfl (Pur.pickF rfl rfl) ?_
        refine JO.pur rfl rfl rfl (Pur.move rfl) ?_
        refine JO.splitB 37 rfl (fun h37 => ?_) (fun h37 => ?_)
        · try simp only [bSimp, bSimp2, ne_eq] at h37
          have hbad : ¬ goodN k o root vs := fun g => by have g1 := g.1.2.2.1; omega
          refine JO.no rfl rfl rfl ?_
          refine JO.no rfl rfl rfl ?_
          refine JO.no rfl rfl rfl ?_
          refine JO.no rfl rfl rfl ?_
          refine JO.no rfl rfl rfl ?_
          refine JO.no rfl rfl rfl ?_
          refine JO.no rfl rfl rfl ?_
          refine JO.no rfl rfl rfl ?_
          refine JO.no rfl rfl rfl ?_
          refine JO.no rfl rfl rfl ?_
          refine JO.no rfl rfl rfl ?_
          refine JO.pur rfl rfl rfl (Pur.pickT rfl rfl) ?_
          refine JO.nil ?_
          refine J.condT rfl rfl ?_
          refine J.seq rfl ?_
          refine J.region rfl ?_
          refine JO.pur rfl rfl rfl (Pur.assign rfl) ?_
          refine JO.pur rfl rfl rfl (Pur.assign rfl) ?_
          refine JO.nil ?_
          refine J.ret rfl rfl ?_
          first
          | exact ⟨_, _, .inl ⟨hbad, rfl, rfl⟩, rfl, SubC.out⟩
          | (refine ⟨_, _, .inr ⟨⟨⟨hka, hoa, ⟨h1, h8⟩, hra⟩, hnb⟩, b77, am, cm, bs, rfl, rfl⟩, rfl, fun h s => ?_⟩; show Sat h (GB b77 am cm bs (beginG (g0 k o root vs)) :: L); exact SubC.out h s)
        · try simp only [bSimp, bSimp2, ne_eq] at h37
          refine JO.pur rfl rfl rfl (Pur.move rfl) ?_
          refine JO.pur rfl rfl rfl (Pur.neqT rfl rfl) ?_
          refine JO.pur rfl rfl rfl (Pur.move rfl) ?_
          refine JO.splitB 40 rfl (fun h40 => ?_) (fun h40 => ?_)
          · try simp only [bSimp, bSimp2, ne_eq] at h40
            refine JO.pur rfl rfl rfl (Pur.move rfl) ?_
            refine JO.pur rfl rfl rfl (Pur.lss rfl rfl) ?_
            refine JO.pur rfl rfl rfl (Pur.move rfl) ?_
            refine JO.splitB 43 rfl (fun h43 => ?_) (fun h43 => ?_)
            · try simp only [bSimp, bSimp2, ne_eq] at h43
              have hbad : ¬ goodN k o root vs := fun g => by have g1 := g.1.2.2.2 h40; omega
              refine JO.no rfl rfl rfl ?_
              refine JO.no rfl rfl rfl ?_
              refine JO.no rfl rfl rfl ?_
              refine JO.pur rfl rfl rfl (Pur.pickT rfl rfl) ?_
              refine JO.pur rfl rfl rfl (Pur.pickT rfl rfl) ?_
              refine JO.pur rfl rfl rfl (Pur.pickF rfl rfl) ?_
              refine JO.nil ?_
              refine J.condT rfl rfl ?_
              refine J.seq rfl ?_
              refine J.region rfl ?_
              refine JO.pur rfl rfl rfl (Pur.assign rfl) ?_
              refine JO.pur rfl rfl rfl (Pur.assign rfl) ?_
              refine JO.nil ?_
              refine J.ret rfl rfl ?_
              first
              | exact ⟨_, _, .inl ⟨hbad, rfl, rfl⟩, rfl, SubC.out⟩
              | (refine ⟨_, _, .inr ⟨⟨⟨hka, hoa, ⟨h1, h8⟩, hra⟩, hnb⟩, b77, am, cm, bs, rfl, rfl⟩, rfl, fun h s => ?_⟩; show Sat h (GB b77 am cm bs (beginG (g0 k o root vs)) :: L); exact SubC.out h s)
            · try simp only [bSimp, bSimp2, ne_eq] at h43
              refine JO.pur rfl rfl rfl (Pur.move rfl) ?_
              refine JO.pur rfl rfl rfl (Pur.move rfl) ?_
              refine JO.pur rfl rfl rfl (Pur.geq rfl rfl) ?_
              refine JO.pur rfl rfl rfl (Pur.pickF rfl rfl) ?_
              refine JO.pur rfl rfl rfl (Pur.pickT rfl rfl) ?_
              refine JO.pur rfl rfl rfl (Pur.pickF rfl rfl) ?_
              refine JO.nil ?_
              refine J.splitB 49 rfl (fun h49 => ?_) (fun h49 => ?_)
              · try simp only [bSimp, bSimp2, ne_eq] at h49
                have hbad : ¬ goodN k o root vs := fun g => by have g1 := g.1.2.2.2 h40; omega
                refine J.condT rfl rfl ?_
                refine J.seq rfl ?_
                refine J.region rfl ?_
                refine JO.pur rfl rfl rfl (Pur.assign rfl) ?_
                refine JO.pur rfl rfl rfl (Pur.assign rfl) ?_
                refine JO.nil ?_
                refine J.ret rfl rfl ?_
                first
                | exact ⟨_, _, .inl ⟨hbad, rfl, rfl⟩, rfl, SubC.out⟩
                | (refine ⟨_, _, .inr ⟨⟨⟨hka, hoa, ⟨h1, h8⟩, hra⟩, hnb⟩, b77, am, cm, bs, rfl, rfl⟩, rfl, fun h s => ?_⟩; show Sat h (GB b77 am cm bs (beginG (g0 k o root vs)) :: L); exact SubC.out h s)
              · try simp only [bSimp, bSimp2, ne_eq] at h49
                refine J.condF rfl rfl ?_
                refine J.skip rfl ?_
                have hka : k ∈ kinds := by simp_all
                have hoa : o ∈ opsL := by
                  by_cases g1 : o ∈ opsL
                  · exact g1
                  · exfalso; simp_all
                have hna : 1 ≤ vs.length ∧ vs.length ≤ 8 := by omega
                have hra : ¬ k = sScan → 0 ≤ root ∧ root < (vs.length : Int) := fun g1 => by first | exact absurd (show k = ⟨#[115, 99, 97, 110]⟩ by simpa using h40) g1 | (constructor <;> omega)
                exact J.weaken (.cons rfl rfl (.cons rfl rfl (.cons rfl rfl (.cons rfl rfl .nil)))) (by first | exact fun _ h => h | exact SubC.out | (dsimp only; exact SubC.out)) (cuta3 () ⟨hka, hoa, hna, hra⟩)
          · try simp only [bSimp, bSimp2, ne_eq] at h40
            refine JO.no rfl rfl rfl ?_
            refine JO.no rfl rfl rfl ?_
            refine JO.no rfl rfl rfl ?_
            refine JO.no rfl rfl rfl ?_
            refine JO.no rfl rfl rfl ?_
            refine JO.no rfl rfl rfl ?_
            refine JO.no rfl rfl rfl ?_
            refine JO.pur rfl rfl rfl (Pur.pickF rfl rfl) ?_
            refine JO.pur rfl rfl rfl (Pur.pickF rfl rfl) ?_
            refine JO.nil ?_
            refine J.condF rfl rfl ?_
            refine J.skip rfl ?_
            have hka : k ∈ kinds := by simp_all
            have hoa : o ∈ opsL := by
              by_cases g1 : o ∈ opsL
              · exact g1
              · exfalso; simp_all
            have hna : 1 ≤ vs.length ∧ vs.length ≤ 8 := by omega
            have hra : ¬ k = sScan → 0 ≤ root ∧ root < (vs.length : Int) := fun g1 => by first | exact absurd (show k = ⟨#[115, 99, 97, 110]⟩ by simpa using h40) g1 | (constructor <;> omega)
            exact J.weaken (.cons rfl rfl (.cons rfl rfl (.cons rfl rfl (.cons rfl rfl .nil)))) (by first | exact fun _ h => h | exact SubC.out | (dsimp only; exact SubC.out)) (cuta3 () ⟨hka, hoa, hna, hra⟩)

end Go.Proofs.Ytoikjjpleonllaa

/- The text G13. -/
set_option linter.unusedVariables false
set_option linter.unusedSimpArgs false
set_option maxRecDepth 10000
namespace Go.Proofs.Ytoikjjpleonllaa
open Go Go.KK Gr

def pairE : Enc (Nat × Nat) := ⟨90, 2, fun p => [.int .i64 (p.1 : Int), .int .i64 (p.2 : Int)], fun _ => rfl, fun s v h => by
  simp only [List.mem_cons, List.not_mem_nil, or_false] at h; rcases h with rfl | rfl <;> rfl⟩
def prs (l : List Ms) : List (Nat × Nat) := l.map fun m => (m.fr, m.to)
theorem prs_len (l : List Ms) : (prs l).length = l.length := by simp [prs]
theorem fly_len {g : Gs} {k : Nat} (h : k ≤ g.fly.length) : (prs (g.fly.take k)).length = k := by rw [prs_len, List.length_take]; omega
theorem flying_ok {L : List Asn} {p : Nat} {am : Option Addr} {cm : Nat} {bs : List Nat} {g : Gs} (hw : wf g) (hf : g.fly.length ≤ 10000) :
    CallS Try.prog 21 [.pointer (some ⟨p, 0, none⟩)].toArray (GB p am cm bs g :: L) (fun v M => ∃ a' c', v = .slice a' g.fly.length c' ∧ M = sl pairE a' c' (prs g.fly) :: GB p am cm bs g :: L) := by
  have hn8 := hw.2.1
  have hn1 := hw.1
  refine CallS.ent ?_
  refine CallS.enter Try.func21 rfl rfl rfl rfl rfl ?_
  refine GB_open fun af cf hb => ?_
  refine J.seq rfl ?_
  refine J.region rfl ?_
  refine JO.pur rfl rfl rfl (Pur.assign rfl) ?_
  refine JO.nil ?_
  refine J.seq rfl ?_
  refine J.seq rfl ?_
  refine J.region rfl ?_
  refine JO.pur rfl rfl rfl (Pur.move rfl) ?_
  refine JO.effR rfl rfl rfl (Eff.call rfl (none_ok)) ?_
  refine JO.setv (u' := .bool false) 7 rfl (congrArg Value.bool (decide_eq_false (by omega))) ?_
  refine JO.nil ?_
  refine J.condF rfl rfl ?_
  refine J.skip rfl ?_
  refine J.seq rfl ?_
  refine J.region rfl ?_
  refine JO.pur rfl rfl rfl (Pur.assign rfl) ?_
  refine JO.nil ?_
  refine J.seq rfl ?_
  refine J.seq rfl ?_
  refine J.region rfl ?_
  refine JO.pur rfl rfl rfl (Pur.move rfl) ?_
  refine JO.pur rfl rfl rfl (Pur.nilCheck rfl) ?_
  refine JO.pur rfl rfl rfl (Pur.fieldAddr rfl) ?_
  refine JO.pur rfl rfl rfl (Pur.load rfl (CellIn.blk rfl)) ?_
  refine JO.pur rfl rfl rfl (Pur.len rfl) ?_
  refine JO.pur rfl rfl rfl (Pur.move rfl) ?_
  refine JO.nil ?_
  refine J.block rfl ?_
  refine J.loopF (ι := Nat × Option Addr × Nat) (fun q => q.1 ≤ g.fly.length) (fun q => [(3, .slice q.2.1 q.1 q.2.2), (13, .int .i64 (q.1 : Int))]) [(11, _), (12, _)] (fun q => sl pairE q.2.1 q.2.2 (prs (g.fly.take q.1)) :: blk p (gC g.kind g.op g.root am g.ms.length cm af g.fly.length cf g.sent) :: sl memE am cm (g.ms.zip bs) :: sl msgE af cf g.fly :: star (List.zipWith mpA bs g.ms) :: L) (fun q => g.fly.length - q.1) (0, none, 0) rfl (.cons rfl rfl (.cons rfl rfl .nil)) (.cons rfl rfl (.cons rfl rfl .nil)) (fun h s => by have s2 := sl_nil_new (E := pairE) s; exact s2) (Nat.zero_le _) ?_
  rintro ⟨q, a3, c3⟩ hq ihq
  try dsimp only
  dsimp only at hq
  have hpl := fly_len hq
  refine J.seq rfl ?_
  refine J.region rfl ?_
  refine JO.pur rfl rfl rfl (Pur.lss rfl rfl) ?_
  refine JO.nil ?_
  refine J.seq rfl ?_
  refine J.splitB 14 rfl (fun h14 => ?_) (fun h14 => ?_)
  · try simp only [bSimp, bSimp2, ne_eq] at h14
    have hql : q < g.fly.length := by omega
    have htk : prs (g.fly.take (q + 1)) = prs (g.fly.take q) ++ [((msg g q).fr, (msg g q).to)] := by rw [take_get (msg_get hql)]; simp [prs]
    refine J.condT rfl rfl ?_
    refine J.skip rfl ?_
    refine J.seq rfl ?_
    refine J.block rfl ?_
    refine J.seq rfl ?_
    refine J.region rfl ?_
    refine JO.pur rfl rfl rfl (Pur.idx rfl rfl rfl (by first | rfl | (simp; done) | omega) rfl (by omega)) ?_
    refine JO.pur rfl rfl rfl (Pur.loadA rfl rfl rfl (CellsIn.el rfl (msg_get hql))) ?_
    refine JO.setv (u' := msgV (msg g q)) 16 rfl rfl ?_
    refine JO.eff rfl rfl rfl (Eff.alloc (cs := [_, _, _, _, _]) rfl) ?_
    rintro _ _ ⟨b5, rfl, rfl⟩
    refine JO.effN rfl rfl (Eff.storeBA (cs' := [_, _, _, _, _]) rfl rfl (by rfl) (by rfl) (by rfl)) ?_
    rintro _ _ ⟨rfl, rfl⟩
    refine JO.nil ?_
    refine J.region rfl ?_
    refine JO.pur rfl rfl rfl (Pur.move rfl) ?_
    refine JO.pur rfl rfl rfl (Pur.fieldAddr rfl) ?_
    refine JO.pur rfl rfl rfl (Pur.load rfl (CellIn.blk rfl)) ?_
    refine JO.pur rfl rfl rfl (Pur.fieldAddr rfl) ?_
    refine JO.pur rfl rfl rfl (Pur.load rfl (CellIn.blk rfl)) ?_
    refine JO.pur rfl rfl rfl (Pur.build (cs := [_, _]) rfl rfl) ?_
    refine JO.eff rfl rfl rfl (Eff.buildSlice pairE [((msg g q).fr, (msg g q).to)] rfl rfl rfl rfl rfl rfl rfl) ?_
    rintro _ _ ⟨b23, rfl, -, rfl⟩
    refine JO.eff rfl rfl rfl (Eff.append rfl rfl rfl rfl (by first | rfl | omega | (simp; done) | (simp; omega)) (by first | rfl | omega | (simp; done) | (simp; omega)) (by decide) (by rw [hpl]; simp; omega) (by rw [hpl]; simp; omega) (fun h => by cases h)) ?_
    rintro _ _ ⟨a24, c24, rfl, rfl⟩
    refine JO.setv (u' := .slice a24 (q + 1) c24) 24 rfl (by rw [hpl]; rfl) ?_
    refine JO.pur rfl rfl rfl (Pur.assign rfl) ?_
    refine JO.nil ?_
    refine J.inBlock ?_
    refine J.region rfl ?_
    refine JO.pur rfl rfl rfl (Pur.add rfl rfl (wr64 (by omega))) ?_
    refine JO.pur rfl rfl rfl (Pur.move rfl) ?_
    refine JO.nil ?_
    exact J.weaken (.cons rfl rfl (.cons rfl (congrArg (Value.int .i64) (by first | rfl | (dsimp only; omega))) (.cons rfl rfl (.cons rfl rfl .nil)))) (fun h s => by dsimp only; rw [htk]; exact SubC.out h s) (ihq (q + 1, a24, c24) (by dsimp only; omega) (by dsimp only; omega))
  · try simp only [bSimp, bSimp2, ne_eq] at h14
    have hqe : q = g.fly.length := by omega
    subst hqe
    rw [List.take_length]
    refine J.condF rfl rfl ?_
    refine J.exit rfl rfl ?_
    refine J.seq rfl ?_
    refine J.region rfl ?_
    refine JO.pur rfl rfl rfl (Pur.move rfl) ?_
    refine JO.pur rfl rfl rfl (Pur.assign rfl) ?_
    refine JO.nil ?_
    refine J.ret rfl rfl ?_
    refine ⟨_, _, ⟨a3, c3, rfl, rfl⟩, rfl, fun h s => ?_⟩
    exact (SubC.out (L := GB p am cm bs g :: sl pairE a3 c3 (prs g.fly) :: L) h (GB_mk (g := g) (af := af) (cf := cf) hb (SubC.out (M := blk p (gC g.kind g.op g.root am g.ms.length cm af g.fly.length cf g.sent) :: sl memE am cm (g.ms.zip bs) :: sl msgE af cf g.fly :: star (List.zipWith mpA bs g.ms) :: sl pairE a3 c3 (prs g.fly) :: L) h s)))

theorem over_ok {L : List Asn} {p : Nat} {am : Option Addr} {cm : Nat} {bs : List Nat} {g : Gs} (hw : wf g) :
    CallS Try.prog 19 [.pointer (some ⟨p, 0, none⟩)].toArray (GB p am cm bs g :: L) (fun v M => v = .bool (decide (g.fly.length = 0)) ∧ M = GB p am cm bs g :: L) := by
  have hn8 := hw.2.1
  have hn1 := hw.1
  refine CallS.ent ?_
  refine CallS.enter Try.func19 rfl rfl rfl rfl rfl ?_
  refine GB_open fun af cf hb => ?_
  refine J.seq rfl ?_
  refine J.region rfl ?_
  refine JO.pur rfl rfl rfl (Pur.assign rfl) ?_
  refine JO.nil ?_
  refine J.seq rfl ?_
  refine J.region rfl ?_
  refine JO.pur rfl rfl rfl (Pur.move rfl) ?_
  refine JO.effR rfl rfl rfl (Eff.call rfl (none_ok)) ?_
  refine JO.setv (u' := .bool false) 4 rfl (congrArg Value.bool (decide_eq_false (by omega))) ?_
  refine JO.pur rfl rfl rfl (Pur.move rfl) ?_
  refine JO.pur rfl rfl rfl (Pur.move rfl) ?_
  refine JO.pur rfl rfl rfl (Pur.nilCheck rfl) ?_
  refine JO.pur rfl rfl rfl (Pur.fieldAddr rfl) ?_
  refine JO.pur rfl rfl rfl (Pur.load rfl (CellIn.blk rfl)) ?_
  refine JO.pur rfl rfl rfl (Pur.len rfl) ?_
  refine JO.pur rfl rfl rfl (Pur.eqlI rfl rfl) ?_
  refine JO.pur rfl rfl rfl (Pur.pickF rfl rfl) ?_
  refine JO.pur rfl rfl rfl (Pur.assign rfl) ?_
  refine JO.nil ?_
  refine J.ret rfl rfl ?_
  refine ⟨_, _, ⟨rfl, rfl⟩, congrArg Value.bool (decide_eq_decide.2 (by omega)), fun h s => GB_mk (g := g) (af := af) (cf := cf) hb (SubC.out (M := blk p (gC g.kind g.op g.root am g.ms.length cm af g.fly.length cf g.sent) :: sl memE am cm (g.ms.zip bs) :: sl msgE af cf g.fly :: star (List.zipWith mpA bs g.ms) :: L) h s)⟩

end Go.Proofs.Ytoikjjpleonllaa
