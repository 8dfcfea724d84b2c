/-
  A part of the proof of the claim that this folder bears.
-/
import Derived.Test.YtnhippfllgnngaaKB
import Derived.Laws.IdiomStrings
/- The text K32. -/
/-!
  Bytes as strings; what is only read; assertions in a list; slices of slices that are only read.
-/
set_option linter.unusedVariables false
set_option linter.unusedSimpArgs false
set_option linter.unusedSectionVars false
namespace Go.KK
section
variable {P : Program} {F : Fr} {L : List Asn} {dst : Option Tmp} {ty : TypeId} {pos : String} {aft : Array Edge} {gd : Option (Nat × Bool)}
def strB (xs : List UInt8) : ByteArray := ⟨xs.toArray⟩
/-- What is only read from now on. -/
@[irreducible] def rd {α : Type} (E : Enc α) (a : Option Addr) (xs : List α) : Asn := fun h => slR E h a xs
instance SlIn.rd {α : Type} {E : Enc α} {L : List Asn} {a : Option Addr} {xs : List α} : SlIn E (rd E a xs :: L) a xs := ⟨fun h hs => by
  obtain ⟨h1, l, s⟩ := hs.head
  have s2 : slR E h1 a xs := by unfold KK.rd at s; exact s
  exact s2.mono l⟩
end

/-! Assertions in a list. -/
class StarP (As : List Asn) (L : List Asn) (R : outParam (List Asn)) : Prop where out : L.Perm (star As :: R)
instance StarP.head {As : List Asn} {L : List Asn} : StarP As (star As :: L) L := ⟨.refl _⟩
instance (priority := 900) StarP.tail {As : List Asn} {B : Asn} {L R : List Asn} [h : StarP As L R] : StarP As (B :: L) (B :: R) := ⟨(h.out.cons B).trans (.swap _ _ _)⟩

/-! Slices of slices that are only read. -/
class RowsR {α : outParam Type} (E : outParam (Enc α)) (L : List Asn) (hs : List Hdr) (xss : outParam (List (List α))) : Prop where
  out : ∀ h, Sat h L → hs.map (·.n) = xss.map (·.length) ∧ ∀ (i : Nat) (hd : Hdr) (xs : List α), hs[i]? = some hd → xss[i]? = some xs → slR E h hd.a xs ∧ (hd.a = none → hd.n = 0 ∧ hd.cap = 0) ∧ hd.n ≤ hd.cap
instance (priority := 900) RowsR.tail {α : Type} {E : Enc α} {A : Asn} {L : List Asn} {hs : List Hdr} {xss : List (List α)} [hh : RowsR E L hs xss] : RowsR E (A :: L) hs xss := ⟨fun h s => hh.out h s.tail⟩
theorem RowsR.row {α : Type} {E : Enc α} {L : List Asn} {hs : List Hdr} {xss : List (List α)} (hh : RowsR E L hs xss) {i : Nat} {hd : Hdr} {xs : List α} (h1 : hs[i]? = some hd) (h2 : xss[i]? = some xs) : SlIn E L hd.a xs := ⟨fun h s => ((hh.out h s).2 i hd xs h1 h2).1⟩
theorem RowsR.len {α : Type} {E : Enc α} {L : List Asn} {hs : List Hdr} {xss : List (List α)} [hh : RowsR E L hs xss] {h : Hp} (s : Sat h L) : hs.map (·.n) = xss.map (·.length) := (hh.out h s).1
theorem RowsR.fit {α : Type} {E : Enc α} {L : List Asn} {hs : List Hdr} {xss : List (List α)} [hh : RowsR E L hs xss] {h : Hp} (s : Sat h L) {i : Nat} {hd : Hdr} {xs : List α} (h1 : hs[i]? = some hd) (h2 : xss[i]? = some xs) : (hd.a = none → hd.n = 0 ∧ hd.cap = 0) ∧ hd.n ≤ hd.cap := ((hh.out h s).2 i hd xs h1 h2).2
class InpR {α : outParam Type} (E : outParam (Enc α)) (h0 : Hp) (hs : List Hdr) (xss : outParam (List (List α))) : Prop where
  out : hs.map (·.n) = xss.map (·.length) ∧ ∀ (i : Nat) (hd : Hdr) (xs : List α), hs[i]? = some hd → xss[i]? = some xs → slR E h0 hd.a xs ∧ (hd.a = none → hd.n = 0 ∧ hd.cap = 0) ∧ hd.n ≤ hd.cap
instance InpR.rowsR {α : Type} {E : Enc α} {h0 : Hp} {L : List Asn} {hs : List Hdr} {xss : List (List α)} [hh : InpR E h0 hs xss] : RowsR E (inp h0 :: L) hs xss := ⟨fun h s => by
  obtain ⟨h1, l, a⟩ := s.head
  refine ⟨hh.out.1, fun i hd xs e1 e2 => ?_⟩
  obtain ⟨g1, g2⟩ := hh.out.2 i hd xs e1 e2
  exact ⟨g1.mono (Hp.le_trans (inp_iff.1 a) l), g2⟩⟩
end Go.KK

/- The text K33. -/
/-!
  Slice arguments of whatever elements; of bytes; of slices.
-/
set_option linter.unusedVariables false
set_option linter.unusedSimpArgs false
set_option linter.unusedSectionVars false
namespace Go.KK
open Go.ChangeShapes Go.WideShapes Go.ChangeAt Go.RowKit
section
open Go.Deep
variable {H : Type} {enc : TypeId × Value → H} {P : Program} {w : World} {base : Nat} {spare : Nat → Bool} {held : Bool}
theorem open_gen {α : Type} [Inhabited α] (E : Enc α) {t e : TypeId} {v : Value} {d : DataW H} {ps : List MemPlace} (ht : P.underlying t = some (.slice e)) (hC : P.cellsOf e = E.m) (hm : 0 < E.m)
    (hel : ∀ (fuel : Nat) (cs : List Value) (x : DataW H × List MemPlace), DataW.trod enc P w base spare held fuel e cs = some x → ∃ g : α, E.enc g = cs)
    (hv : ∃ a len cap, v = .slice a len cap) (h : DataW.Trod enc P w base spare held t v d ps) : ∃ (a : Option Addr) (xs : List α) (cap : Nat), v = .slice a xs.length cap ∧ xs.length ≤ maxLen ∧ xs.length ≤ cap ∧ (a = none → xs = [] ∧ cap = 0) ∧ slR E (hp w) a xs ∧
      ∀ x ∈ xs, ∃ (fuel : Nat) (y : DataW H × List MemPlace), DataW.trod enc P w base spare held fuel e (E.enc x) = some y := by
  obtain ⟨fuel, hf⟩ := h
  obtain ⟨a0, len0, cap0, rfl⟩ := hv
  rcases open_slice ht hf with h0 | ⟨a, len, cap, m, n, D, Pl, h0, hb, h1, h2, hmm, hx, hi⟩
  · simp [Value.cells] at h0
    obtain ⟨⟨rfl, rfl, rfl⟩, _⟩ := h0
    exact ⟨none, [], 0, rfl, by unfold maxLen; simp, by simp, fun _ => ⟨rfl, rfl⟩, .inl rfl, by simp⟩
  · simp [Value.cells] at h0
    obtain ⟨rfl, rfl, rfl⟩ := h0
    have hex : ∀ i, i < len0 → ∃ x : α, (∀ k u, k < E.m → (E.enc x)[k]? = some u → w.cell? (a.add (i * E.m + k)) = some u) ∧ DataW.trod enc P w base spare held n e (E.enc x) = some (D i, Pl i) := by
      intro i hil
      obtain ⟨cs', hc, ht'⟩ := hi i (by rw [hmm]; split <;> omega)
      rw [hC] at hc
      obtain ⟨_, hcl, hat⟩ := World.cells?_some hc
      obtain ⟨g, hg⟩ := hel _ _ _ ht'
      refine ⟨g, fun k u hk hu => ?_, by rw [hg]; exact ht'⟩
      have := hat k hk
      rw [Go.Deep.add_add] at this
      rw [this, ← hg, hu]
    obtain ⟨F, hF⟩ := choose_lt hex
    refine ⟨some a, (List.range len0).map F, cap0, by simp, by simp; omega, by simp; omega, (fun h => by cases h), slR_of hm ?_, fun x hx => ?_⟩
    · intro i x hx k u hk hu
      rw [List.getElem?_map] at hx
      by_cases hil : i < len0
      · rw [List.getElem?_range hil] at hx
        simp only [Option.map_some, Option.some.injEq] at hx
        subst hx
        exact (hF i hil).1 k u hk hu
      · rw [List.getElem?_eq_none (by simp; omega)] at hx; cases hx
    · obtain ⟨i, hi', rfl⟩ := List.mem_map.1 hx
      exact ⟨n, _, (hF i (List.mem_range.1 hi')).2⟩
theorem trod_hdr {t e fuel : Nat} {cs : List Value} {x : DataW H × List MemPlace} (T : TypeId) (ht : P.underlying t = some (.slice e)) (h : DataW.trod enc P w base spare held fuel t cs = some x) : ∃ g : Hdr, (hdrE T).enc g = cs := by
  rcases open_slice ht h with h0 | ⟨a, len, cap, m, n, D, Pl, h0, _⟩
  · exact ⟨⟨none, 0, 0⟩, h0.1.symm⟩
  · exact ⟨⟨some a, len, cap⟩, h0.symm⟩
/-- A slice of slices. -/
theorem open_rows {α : Type} [Inhabited α] (E : Enc α) (T : TypeId) {t e e2 : TypeId} {v : Value} {d : DataW H} {ps : List MemPlace} (ht : P.underlying t = some (.slice e)) (he : P.underlying e = some (.slice e2)) (hC1 : P.cellsOf e = 1) (hC : P.cellsOf e2 = E.m) (hm : 0 < E.m)
    (hel : ∀ (fuel : Nat) (cs : List Value) (x : DataW H × List MemPlace), DataW.trod enc P w base spare held fuel e2 cs = some x → ∃ g : α, E.enc g = cs)
    (hv : ∃ a len cap, v = .slice a len cap) (h : DataW.Trod enc P w base spare held t v d ps) : ∃ (a : Option Addr) (hs : List Hdr) (cap : Nat) (xss : List (List α)), v = .slice a hs.length cap ∧ hs.length ≤ maxLen ∧ hs.length ≤ cap ∧ (a = none → hs = [] ∧ cap = 0) ∧ slR (hdrE T) (hp w) a hs ∧
      InpR E (hp w) hs xss ∧ ∀ xs ∈ xss, xs.length ≤ maxLen := by
  obtain ⟨a, hs, cap, h1, h2, h3, h4, h5, h6⟩ := open_gen (hdrE T) ht hC1 (by show 0 < 1; omega) (fun fuel cs x hx => trod_hdr T he hx) hv h
  have hex : ∀ i, i < hs.length → ∃ xs : List α, ∀ hd, hs[i]? = some hd → hd.n = xs.length ∧ slR E (hp w) hd.a xs ∧ (hd.a = none → hd.n = 0 ∧ hd.cap = 0) ∧ hd.n ≤ hd.cap ∧ xs.length ≤ maxLen := by
    intro i hi
    obtain ⟨fuel, y, hy⟩ := h6 hs[i] (List.getElem_mem hi)
    have hT : DataW.Trod enc P w base spare held e (.slice hs[i].a hs[i].n hs[i].cap) y.1 y.2 := ⟨fuel, hy⟩
    obtain ⟨a', xs, cap', g1, g2, g3, g4, g5, _⟩ := open_gen E he hC hm hel ⟨_, _, _, rfl⟩ hT
    refine ⟨xs, fun hd hhd => ?_⟩
    rw [List.getElem?_eq_getElem hi] at hhd
    cases hhd
    simp only [Value.slice.injEq] at g1
    obtain ⟨rfl, g6, rfl⟩ := g1
    exact ⟨g6, g5, fun e => ⟨by rw [g6, (g4 e).1]; rfl, (g4 e).2⟩, by omega, g2⟩
  obtain ⟨F, hF⟩ := choose_lt hex
  refine ⟨a, hs, cap, (List.range hs.length).map F, h1, h2, h3, h4, h5, ⟨?_, fun i hd xs e1 e2 => ?_⟩, fun xs hx => ?_⟩
  · apply List.ext_getElem?
    intro i
    rw [List.getElem?_map, List.getElem?_map, List.getElem?_map]
    by_cases hi : i < hs.length
    · rw [List.getElem?_range hi, List.getElem?_eq_getElem hi]
      exact congrArg some (hF i hi _ (List.getElem?_eq_getElem hi)).1
    · rw [List.getElem?_eq_none (by omega), List.getElem?_eq_none (by simp; omega)]; rfl
  · have hi : i < hs.length := (List.getElem?_eq_some_iff.1 e1).1
    rw [List.getElem?_map, List.getElem?_range hi] at e2
    cases e2
    have := hF i hi hd e1
    exact ⟨this.2.1, this.2.2.1, this.2.2.2.1⟩
  · obtain ⟨i, hi, rfl⟩ := List.mem_map.1 hx
    have hil := List.mem_range.1 hi
    exact (hF i hil _ (List.getElem?_eq_getElem hil)).2.2.2.2
end
end Go.KK

/- The text K34. -/
/-!
  A slice argument of structs of which one field is a slice and the others are ints, strings and bools.
-/
set_option linter.unusedVariables false
set_option linter.unusedSimpArgs false
set_option linter.unusedSectionVars false
namespace Go.KK
open Go.ChangeShapes Go.WideShapes Go.ChangeAt Go.RowKit
section
open Go.Deep
variable {H : Type} {enc : TypeId × Value → H} {P : Program} {w : World} {base : Nat} {spare : Nat → Bool} {held : Bool}
end
end Go.KK

/- The text K35. -/
/-!
  A range over a function of one value whose next value is not known beforehand (the keys of a map).
-/
set_option linter.unusedVariables false
set_option linter.unusedSimpArgs false
namespace Go.KK
section
variable {c : Rx} {R : RP} {ds : List Deferred} {F : Fr} {L : List Asn}
theorem JR.star {M : List Asn} {x : Code} (h : JR c R ds F (M ++ L) x) : JR c R ds F (star M :: L) x := fun a w hF hs he => h a w hF (Sat.star.1 hs) he
end
end Go.KK

/- The text K36. -/
/-!
  A map's look-up that tells whether the key is there.
-/
set_option linter.unusedVariables false
set_option linter.unusedSimpArgs false
namespace Go.KK
section
variable {κ : Type} [DecidableEq κ] {P : Program} {F : Fr} {L : List Asn} {dst : Option Tmp} {ty : TypeId} {pos : String} {aft : Array Edge} {gd : Option (Nat × Bool)}
end
end Go.KK

/- The text K37. -/
/-!
  Rows that are owned, read as rows that are only read; a struct argument taken apart.
-/
set_option linter.unusedVariables false
set_option linter.unusedSimpArgs false
set_option linter.unusedSectionVars false
namespace Go.KK
instance RowsR.own {α : Type} {E : Enc α} {L : List Asn} {hs : List Hdr} {xss : List (List α)} : RowsR E (rows E hs xss :: L) hs xss := ⟨fun h s => by
  have e := (rows_iff.1 s).1
  refine ⟨e, fun i hd xs h1 h2 => ?_⟩
  have s2 := rows_open h1 h2 s
  have hn := hdr_n e h1 h2
  have g1 : slR E h hd.a xs := SlIn.head.out h s2
  have g2 := SlH.nil (a := hd.a) (cap := hd.cap) (E := E) (xs := xs) s2
  have g3 := SlH.le (a := hd.a) (cap := hd.cap) (E := E) (xs := xs) s2
  exact ⟨g1, fun ha => by obtain ⟨a1, a2⟩ := g2 ha; exact ⟨by rw [hn, a1]; rfl, a2⟩, by omega⟩⟩
end Go.KK

/- The text K38. -/
/-!
  A store of a whole element of a slice.
-/
set_option linter.unusedVariables false
set_option linter.unusedSimpArgs false
set_option linter.unusedSectionVars false
namespace Go.KK
section
variable {P : Program} {F : Fr} {L : List Asn} {dst : Option Tmp} {ty : TypeId} {pos : String} {aft : Array Edge} {gd : Option (Nat × Bool)}
theorem Eff.storeSA {α : Type} {E : Enc α} {t m n : Nat} [h1 : Agg P t n] {x y : Operand} {a : Option Addr} {cap i : Nat} {xs : List α} {z' : α} {cs' : List Value} {f : Asn → List Asn}
    (hx : ev F x = some (.pointer (some (el a m i)))) (hy : ev F y = some (.agg cs'.toArray)) [hs : SlH E L a cap xs f] (hm : E.m = m) (hn : n = m) (hi : i < xs.length) (hz : cs' = E.enc z') :
    Eff P F L ⟨dst, .store t x y, ty, pos, aft, gd⟩ (fun u M => u = undef ∧ M = f (sl E a cap (xs.set i z'))) := Eff.of_skip fun ρ w hρ hw => by
  subst hm; subst hz; subst hn
  have hr := hs.out (sl E a cap (xs.set i z'))
  obtain ⟨h0, l0, a0⟩ := Sat.memRep hr hw
  rcases sl_iff.1 a0 with ⟨_, _, hn⟩ | ⟨b, spare, ha, q1, q2, q3, hb⟩
  · subst hn; simp at hi
  subst ha
  have hbw : KK.hp w b = some (.cells (E.all xs ++ spare).toArray E.T (0, 0)) := l0 _ _ hb
  have hle : i * E.m + E.m ≤ (E.all xs).length := by
    rw [E.all_len]
    have : (i + 1) * E.m ≤ xs.length * E.m := Nat.mul_le_mul_right _ hi
    rw [Nat.add_mul] at this; omega
  have hst := run_storeVar_off P w b (i * E.m) E.T t (E.all xs ++ spare) (E.enc z') hbw (by rw [h1.size, E.len]) (by rw [E.len, List.length_append]; omega) (List.all_eq_true.2 fun v hv => E.one z' v hv)
  have e2 : splice (E.all xs ++ spare) (i * E.m) (E.enc z') = E.all (xs.set i z') ++ spare := by
    rw [all_set E hi]
    unfold splice
    rw [E.len, List.take_append_of_le_length (by omega), List.drop_append_of_le_length (by omega)]
    simp
  rw [e2] at hst
  have hel : (el (some ⟨b, 0, none⟩) E.m i) = ⟨b, i * E.m, none⟩ := by simp [el]
  refine ⟨w.setRow b (E.all (xs.set i z') ++ spare).toArray, f (sl E (some ⟨b, 0, none⟩) cap (xs.set i z')), ?_, ⟨rfl, rfl⟩, rfl, ?_⟩
  · have he : execOp ρ ⟨dst, .store t x y, ty, pos, aft, gd⟩ = (do Instr.storeAt t (ρ x) (ρ y); pure .skip) := rfl
    rw [he, Sem.run_bind, hρ _ _ hx, hρ _ _ hy, hel]
    have : (Instr.storeAt t (.pointer (some ⟨b, i * E.m, none⟩)) (.agg (E.enc z').toArray)).run P w = .ok () (w.setRow b (E.all (xs.set i z') ++ spare).toArray) := by
      simp only [Instr.storeAt, Instr.sureAddr, Sem.run_bind, Sem.run_pure, Result.andThen_ok]
      exact hst
    rw [this]; rfl
  · rw [hp_setRow _ _ _ _ _ _ hbw]
    refine Sat.frameRep hr hw fun h1 hA hl1 => ?_
    rcases sl_iff.1 hA with ⟨hno, _, _⟩ | ⟨b', spare', ha', r1, r2, r3, hb'⟩
    · cases hno
    simp only [Option.some.injEq, Addr.mk.injEq, true_and, and_true] at ha'
    subst ha'
    have hsp : spare' = spare := by
      have h2 := hl1 _ _ hb'
      rw [hbw] at h2
      simpa using h2.symm
    subst hsp
    refine ⟨Hp.upd h1 b (.cells (E.all (xs.set i z') ++ spare').toArray E.T (0, 0)), ?_, Hp.upd_le hl1, ?_, ?_⟩
    · exact sl_iff.2 (.inr ⟨b, spare', rfl, by simpa using r1, r2, by simpa using r3, by simp [Hp.upd]⟩)
    · intro x hx'
      unfold Hp.upd at hx'
      by_cases e : x = b
      · left; rw [e, hb']; simp
      · left; simpa [e] using hx'
    · intro x o hxo hno
      unfold Hp.upd
      by_cases e : x = b
      · rw [e, hb'] at hno; cases hno
      · simpa [e] using hxo
end
end Go.KK

/- The text K39. -/
/-!
  Struct arguments whose fields are one cell each.
-/
set_option linter.unusedVariables false
set_option linter.unusedSimpArgs false
set_option linter.unusedSectionVars false
namespace Go.KK
open Go.ChangeShapes Go.WideShapes Go.ChangeAt Go.RowKit
section
open Go.Deep
variable {H : Type} {enc : TypeId × Value → H} {P : Program} {w : World} {base : Nat} {spare : Nat → Bool} {held : Bool}
theorem open_cells {t : TypeId} {fs : Array Field} {fuel : Nat} {cs : List Value} {x : DataW H × List MemPlace} (hs : P.underlying t = some (.struct fs)) (hone : ∀ (i : Nat) (f : Field), fs[i]? = some f → f.offset = i ∧ P.cellsOf f.type = 1) (hC : P.cellsOf t = fs.size)
    (h : DataW.trod enc P w base spare held fuel t cs = some x) :
    ∃ (ys : List (DataW H × List MemPlace)), x = (.agg (ys.map (·.1)), ys.flatMap (·.2)) ∧ cs.length = fs.size ∧ ys.length = fs.size ∧
      ∀ (i : Nat) (f : Field) (c : Value) (y : DataW H × List MemPlace), fs[i]? = some f → cs[i]? = some c → ys[i]? = some y → ∃ n, DataW.trod enc P w base spare held n f.type [c] = some y := by
  obtain ⟨xs, n, _, hx, hl, hxl, hff⟩ := DataW.trod_struct hs h
  refine ⟨xs, hx, by rw [hl, hC], hxl, fun i f c y hi hc hy => ⟨n, ?_⟩⟩
  obtain ⟨ho, hc1⟩ := hone i f hi
  have g := hff i f hi
  have hlt := (List.getElem?_eq_some_iff.1 hc).1
  rw [ho, hc1, take1_drop cs i undef hlt, hy] at g
  rw [List.getD_eq_getElem?_getD, hc] at g
  exact g
theorem open_struct {t : TypeId} {fs : Array Field} {v : Value} {d : DataW H} {ps : List MemPlace} (hs : P.underlying t = some (.struct fs)) (hone : ∀ (i : Nat) (f : Field), fs[i]? = some f → f.offset = i ∧ P.cellsOf f.type = 1) (hC : P.cellsOf t = fs.size)
    (hv : ∃ cs, v = .agg cs ∧ cs.size = P.cellsOf t) (h : DataW.Trod enc P w base spare held t v d ps) :
    ∃ (cs : List Value) (ys : List (DataW H × List MemPlace)), v = .agg cs.toArray ∧ d = .agg (ys.map (·.1)) ∧ ps = ys.flatMap (·.2) ∧ cs.length = fs.size ∧ ys.length = fs.size ∧
      ∀ (i : Nat) (f : Field) (c : Value) (y : DataW H × List MemPlace), fs[i]? = some f → cs[i]? = some c → ys[i]? = some y → ∃ n, DataW.trod enc P w base spare held n f.type [c] = some y := by
  obtain ⟨fuel, hf⟩ := h
  obtain ⟨cs, rfl, hsz⟩ := hv
  obtain ⟨ys, hx, h1, h2, h3⟩ := open_cells hs hone hC (show DataW.trod enc P w base spare held fuel t cs.toList = some (d, ps) from hf)
  exact ⟨cs.toList, ys, by simp, congrArg Prod.fst hx, congrArg Prod.snd hx, h1, h2, h3⟩
theorem len1 {α : Type} {l : List α} (h : l.length = 1) : ∃ a, l = [a] := List.length_eq_one_iff.1 h
theorem len2 {α : Type} {l : List α} (h : l.length = 2) : ∃ a b, l = [a, b] := by
  match l, h with
  | [a, b], _ => exact ⟨a, b, rfl⟩
theorem len3 {α : Type} {l : List α} (h : l.length = 3) : ∃ a b c, l = [a, b, c] := by
  match l, h with
  | [a, b, c], _ => exact ⟨a, b, c, rfl⟩
/-- A cell that is a slice's is read as the slice. -/
theorem cell_slice {t e : TypeId} {n : Nat} {c : Value} {y : DataW H × List MemPlace} (ht : P.underlying t = some (.slice e)) (h : DataW.trod enc P w base spare held n t [c] = some y) : (∃ a len cap, c = .slice a len cap) ∧ DataW.Trod enc P w base spare held t c y.1 y.2 := by
  have hs : ∃ a len cap, c = .slice a len cap := by
    rcases open_slice ht h with h0 | ⟨a, len, cap, m, n', D, Pl, h0, _⟩
    · simp at h0; exact ⟨_, _, _, h0.1⟩
    · simp at h0; exact ⟨_, _, _, h0⟩
  refine ⟨hs, n, ?_⟩
  obtain ⟨a, len, cap, rfl⟩ := hs
  exact h
theorem cell_int {t : TypeId} {k : IntKind} {n : Nat} {c : Value} {y : DataW H × List MemPlace} (ht : P.underlying t = some (.int k)) (h : DataW.trod enc P w base spare held n t [c] = some y) : ∃ z, c = .int k z ∧ (Lit.int k z).wf = true := by
  obtain ⟨s, e, _, hw⟩ := DataW.trod_int ht h
  simp at e; exact ⟨s, e, hw⟩
/-- What a struct's parts weigh. -/
theorem reach_fields {t : TypeId} {fs : Array Field} {parts : List (DataW H)} {ts : List TypeId} {ds : List (DataW H)} {j : Nat} (hz : (DataW.weightsEach P ts ds).all (· ≤ reachBytes) = true) (h1 : ts[j]? = some t) (h2 : ds[j]? = some (.agg parts)) (hs : P.underlying t = some (.struct fs)) :
    (DataW.weightsEach P (fs.toList.map (·.type)) parts).all (· ≤ reachBytes) = true := by
  refine List.all_eq_true.2 fun n hn => ?_
  exact List.all_eq_true.1 hz n (DataW.weights_mem_each h1 h2 n (by simp only [DataW.weights, hs]; exact hn))
end
end Go.KK

/- The text K40. -/
/-!
  The middle of two ints by way of uint.
-/
set_option linter.unusedVariables false
set_option linter.unusedSimpArgs false
namespace Go.KK
section
variable {P : Program} {F : Fr} {L : List Asn} {dst : Option Tmp} {ty : TypeId} {pos : String} {aft : Array Edge} {gd : Option (Nat × Bool)}
class IntT (P : Program) (t : Nat) (k : outParam IntKind) : Prop where
  out : P.underlying t = some (.int k)
theorem Pur.convI {t t' : Nat} {k k' : IntKind} {x : Operand} {n : Int} [h1 : IntT P t k] [h2 : IntT P t' k'] (hx : ev F x = some (.int k n)) (h : k'.wrap n = n) :
    Pur P F L ⟨dst, .convert t t' x, ty, pos, aft, gd⟩ (.int k' n) := fun ρ w hρ _ => by
  have e1 := h1.out
  have e2 := h2.out
  have hk : P.intKind t' = k' := by simp [Program.intKind, e2]
  have := run_convert_int (P := P) t t' k n (by rw [e1]; rfl) (by rw [e2, hk]) (w := w)
  rw [hk, h] at this
  simp [execOp, hρ _ _ hx, this, go_sem]
theorem Pur.shrU1 {t t' : Nat} {x y : Operand} {n : Nat} {j : Int} (hx : ev F x = some (.int .u64 j)) (hy : ev F y = some (.int .u64 1)) (hj : j = (n : Int)) :
    Pur P F L ⟨dst, .binOp .shr t x y t', ty, pos, aft, gd⟩ (.int .u64 ((n / 2 : Nat) : Int)) := fun ρ w hρ _ => by
  subst hj
  have h1 := shift_shr_u64 (yk := .u64) (x := (n : Int)) (y := 1) (by omega) (by omega)
  have h2 : (n : Int) / 2 ^ (1 : Int).toNat = ((n / 2 : Nat) : Int) := by rw [Int.natCast_ediv]; rfl
  rw [h2] at h1
  simp [execOp, hρ _ _ hx, hρ _ _ hy, eqGuard, binOp_shr, h1, go_sem]
end
end Go.KK
namespace Go.KK
theorem CellsIn.sub1 {L : List Asn} {b k : Nat} {cs : List Value} {T : TypeId} {fz : Nat × Nat} {v : Value} [hb : BlkIn L b (.cells cs.toArray T fz)] (h : cs[k]? = some v) : CellsIn L ⟨b, k, none⟩ [v] := fun hh hs j u hv => by
  have h1 := hb.out hh hs
  match j, hv with
  | 0, hv =>
    obtain rfl := Option.some.inj hv
    simp [cellH, h1, h]
end Go.KK
