/-
  A part of the proof of the claim that this folder bears.
-/
import Derived.Test.YtgbckamaenapeaaKC
import Derived.Laws.IdiomStrings
/- The text K32. -/
/-!
  Bytes as strings; what is only read; assertions in a list; slices of slices that are only read.
-/
set_option linter.unusedVariables false
set_option linter.unusedSimpArgs false
set_option linter.unusedSectionVars false
namespace Go.KK
section
variable {P : Program} {F : Fr} {L : List Asn} {dst : Option Tmp} {ty : TypeId} {pos : String} {aft : Array Edge} {gd : Option (Nat × Bool)}
def strB (xs : List UInt8) : ByteArray := ⟨xs.toArray⟩
theorem strB_inj {xs ys : List UInt8} : strB xs = strB ys ↔ xs = ys := by
  constructor
  · intro h
    have := congrArg (fun b => b.data.toList) h
    simpa [strB] using this
  · intro h; rw [h]
theorem Pur.convBS {E : Enc UInt8} {s t e : Nat} {x : Operand} {a : Option Addr} {n cap : Nat} {xs : List UInt8} (hs : P.underlying s = some (.slice e)) (he : P.underlying e = some (.int .u8)) (ht : P.underlying t = some .string)
    (hx : ev F x = some (.slice a n cap)) [hi : SlIn E L a xs] (hn : n = xs.length) (hm : E.m = 1) (hE : ∀ b, E.enc b = [.int .u8 (b.toNat : Int)]) :
    Pur P F L ⟨dst, .convert s t x, ty, pos, aft, gd⟩ (.string (strB xs)) := fun ρ w hρ hw => by
  have hex : execOp ρ ⟨dst, .convert s t x, ty, pos, aft, gd⟩ = (do pure (.value (← convert s t (ρ x)))) := rfl
  subst hn
  have hr : (convert s t (.slice a xs.length cap)).run P w = .ok (.string (strB xs)) w := by
    rcases hi.out _ hw with h0 | ⟨b, o, C, T, fz, rfl, hb, hc⟩
    · subst h0
      rw [show ([] : List UInt8).length = 0 from rfl, run_convert_bytes_string w s t e _ 0 cap hs he ht]
      cases a <;> simp [Conv.bytesToString, loadCells]
      all_goals rfl
    · have h1 := run_convert_bytes_back (P := P) w s t e ⟨b, o, none⟩ cap xs hs he ht (fun j hj => by
        have h2 : (⟨b, o, none⟩ : Addr).add j = ⟨b, o + j, none⟩ := by unfold Addr.add; split <;> simp_all
        have h3 := E.all_get xs j 0 xs[j] (List.getElem?_eq_getElem hj) (by omega)
        rw [hm, hE, Nat.mul_one, Nat.add_zero] at h3
        rw [h2, cell?_eq]; simp [cellH, hb, hc _ _ h3])
      exact h1
  rw [hex, Sem.run_bind, hρ _ _ hx, hr]; rfl

/-- What is only read from now on. -/
@[irreducible] def rd {α : Type} (E : Enc α) (a : Option Addr) (xs : List α) : Asn := fun h => slR E h a xs
instance SlIn.rd {α : Type} {E : Enc α} {L : List Asn} {a : Option Addr} {xs : List α} : SlIn E (rd E a xs :: L) a xs := ⟨fun h hs => by
  obtain ⟨h1, l, s⟩ := hs.head
  have s2 : slR E h1 a xs := by unfold KK.rd at s; exact s
  exact s2.mono l⟩
theorem Eff.convBB {α : Type} {E : Enc α} {t e : Nat} {x : Operand} {b n cap : Nat} {xs : List α} {f : Asn → List Asn} (ht : P.underlying t = some (.slice e)) (he : P.underlying e = some (.int .u8))
    (hx : ev F x = some (.slice (some ⟨b, 0, none⟩) n cap)) [hh : SlH E L (some ⟨b, 0, none⟩) cap xs f] :
    Eff P F L ⟨dst, .convert t t x, ty, pos, aft, gd⟩ (fun u M => u = .slice (some ⟨b, 0, none⟩) n cap ∧ M = f (rd E (some ⟨b, 0, none⟩) xs)) := Eff.of_run fun ρ w hρ hw => by
  have hex : execOp ρ ⟨dst, .convert t t x, ty, pos, aft, gd⟩ = (do pure (.value (← convert t t (ρ x)))) := rfl
  rcases hh.own hw with ⟨h0, _, _⟩ | ⟨b', sp, hb', q1, q2, q3, hbk⟩
  · cases h0
  simp only [Option.some.injEq, Addr.mk.injEq, and_true] at hb'
  subst hb'
  have hbw : w.heap[b]? = some (.cells (E.all xs ++ sp).toArray E.T (0, 0)) := hbk
  have hsh : w.shape? b = some (E.T, (E.all xs ++ sp).toArray.size) := by unfold World.shape?; rw [hbw]
  have hr : (convert t t (.slice (some ⟨b, 0, none⟩) n cap)).run P w = .ok (.slice (some ⟨b, 0, none⟩) n cap) (w.freeze ⟨b, (E.all xs ++ sp).toArray.size, none⟩ 1) := by
    simp only [convert, Sem.run_bind, run_underlying ht, run_underlying he, Result.andThen_ok, beq_self_eq_true, markStringish, run_shape, hsh, run_freeze, Sem.run_pure]
  refine ⟨_, w.freeze ⟨b, (E.all xs ++ sp).toArray.size, none⟩ 1, _, ?_, ⟨rfl, rfl⟩, ?_, ?_⟩
  · rw [hex, Sem.run_bind, hρ _ _ hx, hr]; rfl
  · unfold World.freeze; rw [if_neg (by decide)]; rfl
  · have hbl : b < w.heap.size := (Array.getElem?_eq_some_iff.1 hbw).1
    obtain ⟨fz, hfz⟩ : ∃ fz, hp (w.freeze ⟨b, (E.all xs ++ sp).toArray.size, none⟩ 1) = Hp.upd (hp w) b (.cells (E.all xs ++ sp).toArray E.T fz) := by
      refine ⟨((E.all xs ++ sp).toArray.size, (E.all xs ++ sp).toArray.size + 1), ?_⟩
      funext z
      unfold World.freeze
      rw [if_neg (by decide)]
      unfold hp Hp.upd
      simp only [Array.getElem?_modify]
      by_cases e : z = b
      · subst e; simp [hbw]
      · rw [if_neg (fun h => e h.symm), if_neg e]
    rw [hfz]
    refine Sat.frameRep (hh.out _) hw fun h1 hA hl1 => ?_
    have hb1 : h1 b = some (.cells (E.all xs ++ sp).toArray E.T (0, 0)) := by
      rcases sl_iff.1 hA with ⟨h', _, _⟩ | ⟨b', spare, h', _, _, _, hb'⟩
      · cases h'
      · simp only [Option.some.injEq, Addr.mk.injEq, and_true] at h'
        subst h'
        have := hl1 _ _ hb'
        rw [hbk] at this
        rw [hb']; exact this.symm
    refine ⟨Hp.upd h1 b (.cells (E.all xs ++ sp).toArray E.T fz), ?_, Hp.upd_le hl1, ?_, ?_⟩
    · unfold rd
      refine .inr ⟨b, 0, (E.all xs ++ sp).toArray, E.T, fz, rfl, by simp [Hp.upd], fun j v hj => ?_⟩
      simp only [List.getElem?_toArray, Nat.zero_add]
      rw [List.getElem?_append_left (List.getElem?_eq_some_iff.1 hj).1]; exact hj
    · intro z hz
      unfold Hp.upd at hz
      by_cases e : z = b
      · left; rw [e, hb1]; simp
      · left; simpa [e] using hz
    · intro z o hz hno
      unfold Hp.upd
      by_cases e : z = b
      · rw [e, hb1] at hno; cases hno
      · rw [if_neg e]; exact hz
end

/-! Assertions in a list. -/
theorem star_open {As : List Asn} {i : Nat} {A : Asn} {L : List Asn} {h : Hp} (hi : As[i]? = some A) (s : Sat h (star As :: L)) : Sat h (A :: star (As.eraseIdx i) :: L) := by
  have s1 := Sat.star.1 s
  have s2 := s1.perm ((perm_erase hi).append_right L)
  obtain ⟨k1, k2, d, l1, l2, a, s3⟩ := s2
  exact ⟨k1, k2, d, l1, l2, a, Sat.star.2 s3⟩
theorem star_shut {As : List Asn} {i : Nat} {A B : Asn} {L : List Asn} {h : Hp} (hi : As[i]? = some A) (s : Sat h (B :: star (As.eraseIdx i) :: L)) : Sat h (star (As.set i B) :: L) := by
  obtain ⟨k1, k2, d, l1, l2, a, s3⟩ := s
  have s4 := Sat.star.1 s3
  refine Sat.star.2 (Sat.perm ((perm_set (y := B) hi).append_right L).symm ?_)
  exact ⟨k1, k2, d, l1, l2, a, s4⟩
theorem star_snoc {As : List Asn} {B : Asn} {L : List Asn} {h : Hp} (s : Sat h (B :: star As :: L)) : Sat h (star (As ++ [B]) :: L) := by
  obtain ⟨k1, k2, d, l1, l2, a, s3⟩ := s
  have s4 := Sat.star.1 s3
  refine Sat.star.2 (Sat.perm (L := B :: (As ++ L)) ?_ ⟨k1, k2, d, l1, l2, a, s4⟩)
  rw [List.append_assoc]
  exact (List.perm_middle (l₁ := As) (a := B) (l₂ := L)).symm
theorem star_nil {L : List Asn} {h : Hp} (s : Sat h L) : Sat h (star [] :: L) := Sat.star.2 s
class StarP (As : List Asn) (L : List Asn) (R : outParam (List Asn)) : Prop where out : L.Perm (star As :: R)
instance StarP.head {As : List Asn} {L : List Asn} : StarP As (star As :: L) L := ⟨.refl _⟩
instance (priority := 900) StarP.tail {As : List Asn} {B : Asn} {L R : List Asn} [h : StarP As L R] : StarP As (B :: L) (B :: R) := ⟨(h.out.cons B).trans (.swap _ _ _)⟩

/-! Slices of slices that are only read. -/
class RowsR {α : outParam Type} (E : outParam (Enc α)) (L : List Asn) (hs : List Hdr) (xss : outParam (List (List α))) : Prop where
  out : ∀ h, Sat h L → hs.map (·.n) = xss.map (·.length) ∧ ∀ (i : Nat) (hd : Hdr) (xs : List α), hs[i]? = some hd → xss[i]? = some xs → slR E h hd.a xs ∧ (hd.a = none → hd.n = 0 ∧ hd.cap = 0) ∧ hd.n ≤ hd.cap
instance (priority := 900) RowsR.tail {α : Type} {E : Enc α} {A : Asn} {L : List Asn} {hs : List Hdr} {xss : List (List α)} [hh : RowsR E L hs xss] : RowsR E (A :: L) hs xss := ⟨fun h s => hh.out h s.tail⟩
theorem RowsR.row {α : Type} {E : Enc α} {L : List Asn} {hs : List Hdr} {xss : List (List α)} (hh : RowsR E L hs xss) {i : Nat} {hd : Hdr} {xs : List α} (h1 : hs[i]? = some hd) (h2 : xss[i]? = some xs) : SlIn E L hd.a xs := ⟨fun h s => ((hh.out h s).2 i hd xs h1 h2).1⟩
theorem RowsR.len {α : Type} {E : Enc α} {L : List Asn} {hs : List Hdr} {xss : List (List α)} [hh : RowsR E L hs xss] {h : Hp} (s : Sat h L) : hs.map (·.n) = xss.map (·.length) := (hh.out h s).1
theorem RowsR.fit {α : Type} {E : Enc α} {L : List Asn} {hs : List Hdr} {xss : List (List α)} [hh : RowsR E L hs xss] {h : Hp} (s : Sat h L) {i : Nat} {hd : Hdr} {xs : List α} (h1 : hs[i]? = some hd) (h2 : xss[i]? = some xs) : (hd.a = none → hd.n = 0 ∧ hd.cap = 0) ∧ hd.n ≤ hd.cap := ((hh.out h s).2 i hd xs h1 h2).2
class InpR {α : outParam Type} (E : outParam (Enc α)) (h0 : Hp) (hs : List Hdr) (xss : outParam (List (List α))) : Prop where
  out : hs.map (·.n) = xss.map (·.length) ∧ ∀ (i : Nat) (hd : Hdr) (xs : List α), hs[i]? = some hd → xss[i]? = some xs → slR E h0 hd.a xs ∧ (hd.a = none → hd.n = 0 ∧ hd.cap = 0) ∧ hd.n ≤ hd.cap
instance InpR.rowsR {α : Type} {E : Enc α} {h0 : Hp} {L : List Asn} {hs : List Hdr} {xss : List (List α)} [hh : InpR E h0 hs xss] : RowsR E (inp h0 :: L) hs xss := ⟨fun h s => by
  obtain ⟨h1, l, a⟩ := s.head
  refine ⟨hh.out.1, fun i hd xs e1 e2 => ?_⟩
  obtain ⟨g1, g2⟩ := hh.out.2 i hd xs e1 e2
  exact ⟨g1.mono (Hp.le_trans (inp_iff.1 a) l), g2⟩⟩
end Go.KK

/- The text K33. -/
/-!
  Slice arguments of whatever elements; of bytes; of slices.
-/
set_option linter.unusedVariables false
set_option linter.unusedSimpArgs false
set_option linter.unusedSectionVars false
namespace Go.KK
open Go.ChangeShapes Go.WideShapes Go.ChangeAt Go.RowKit
section
open Go.Deep
variable {H : Type} {enc : TypeId × Value → H} {P : Program} {w : World} {base : Nat} {spare : Nat → Bool} {held : Bool}
theorem open_gen {α : Type} [Inhabited α] (E : Enc α) {t e : TypeId} {v : Value} {d : DataW H} {ps : List MemPlace} (ht : P.underlying t = some (.slice e)) (hC : P.cellsOf e = E.m) (hm : 0 < E.m)
    (hel : ∀ (fuel : Nat) (cs : List Value) (x : DataW H × List MemPlace), DataW.trod enc P w base spare held fuel e cs = some x → ∃ g : α, E.enc g = cs)
    (hv : ∃ a len cap, v = .slice a len cap) (h : DataW.Trod enc P w base spare held t v d ps) : ∃ (a : Option Addr) (xs : List α) (cap : Nat), v = .slice a xs.length cap ∧ xs.length ≤ maxLen ∧ xs.length ≤ cap ∧ (a = none → xs = [] ∧ cap = 0) ∧ slR E (hp w) a xs ∧
      ∀ x ∈ xs, ∃ (fuel : Nat) (y : DataW H × List MemPlace), DataW.trod enc P w base spare held fuel e (E.enc x) = some y := by
  obtain ⟨fuel, hf⟩ := h
  obtain ⟨a0, len0, cap0, rfl⟩ := hv
  rcases open_slice ht hf with h0 | ⟨a, len, cap, m, n, D, Pl, h0, hb, h1, h2, hmm, hx, hi⟩
  · simp [Value.cells] at h0
    obtain ⟨⟨rfl, rfl, rfl⟩, _⟩ := h0
    exact ⟨none, [], 0, rfl, by unfold maxLen; simp, by simp, fun _ => ⟨rfl, rfl⟩, .inl rfl, by simp⟩
  · simp [Value.cells] at h0
    obtain ⟨rfl, rfl, rfl⟩ := h0
    have hex : ∀ i, i < len0 → ∃ x : α, (∀ k u, k < E.m → (E.enc x)[k]? = some u → w.cell? (a.add (i * E.m + k)) = some u) ∧ DataW.trod enc P w base spare held n e (E.enc x) = some (D i, Pl i) := by
      intro i hil
      obtain ⟨cs', hc, ht'⟩ := hi i (by rw [hmm]; split <;> omega)
      rw [hC] at hc
      obtain ⟨_, hcl, hat⟩ := World.cells?_some hc
      obtain ⟨g, hg⟩ := hel _ _ _ ht'
      refine ⟨g, fun k u hk hu => ?_, by rw [hg]; exact ht'⟩
      have := hat k hk
      rw [Go.Deep.add_add] at this
      rw [this, ← hg, hu]
    obtain ⟨F, hF⟩ := choose_lt hex
    refine ⟨some a, (List.range len0).map F, cap0, by simp, by simp; omega, by simp; omega, (fun h => by cases h), slR_of hm ?_, fun x hx => ?_⟩
    · intro i x hx k u hk hu
      rw [List.getElem?_map] at hx
      by_cases hil : i < len0
      · rw [List.getElem?_range hil] at hx
        simp only [Option.map_some, Option.some.injEq] at hx
        subst hx
        exact (hF i hil).1 k u hk hu
      · rw [List.getElem?_eq_none (by simp; omega)] at hx; cases hx
    · obtain ⟨i, hi', rfl⟩ := List.mem_map.1 hx
      exact ⟨n, _, (hF i (List.mem_range.1 hi')).2⟩
theorem trod_u8 {t fuel : Nat} {cs : List Value} {x : DataW H × List MemPlace} (ht : P.underlying t = some (.int .u8)) (h : DataW.trod enc P w base spare held fuel t cs = some x) : ∃ g : UInt8, [Value.int .u8 (g.toNat : Int)] = cs := by
  obtain ⟨n, e, _, hwf⟩ := DataW.trod_int ht h
  refine ⟨UInt8.ofNat n.toNat, ?_⟩
  rw [e]
  have h2 : 0 ≤ n ∧ n ≤ 255 := by
    simp only [Lit.wf] at hwf
    have a1 : IntKind.u8.min = 0 := by decide
    have a2 : IntKind.u8.max = 255 := by decide
    rw [a1, a2] at hwf
    simp at hwf
    omega
  have h3 : (UInt8.ofNat n.toNat).toNat = n.toNat := by rw [UInt8.toNat_ofNat']; omega
  rw [h3, Int.toNat_of_nonneg h2.1]
theorem trod_hdr {t e fuel : Nat} {cs : List Value} {x : DataW H × List MemPlace} (T : TypeId) (ht : P.underlying t = some (.slice e)) (h : DataW.trod enc P w base spare held fuel t cs = some x) : ∃ g : Hdr, (hdrE T).enc g = cs := by
  rcases open_slice ht h with h0 | ⟨a, len, cap, m, n, D, Pl, h0, _⟩
  · exact ⟨⟨none, 0, 0⟩, h0.1.symm⟩
  · exact ⟨⟨some a, len, cap⟩, h0.symm⟩
/-- A slice of slices. -/
theorem open_rows {α : Type} [Inhabited α] (E : Enc α) (T : TypeId) {t e e2 : TypeId} {v : Value} {d : DataW H} {ps : List MemPlace} (ht : P.underlying t = some (.slice e)) (he : P.underlying e = some (.slice e2)) (hC1 : P.cellsOf e = 1) (hC : P.cellsOf e2 = E.m) (hm : 0 < E.m)
    (hel : ∀ (fuel : Nat) (cs : List Value) (x : DataW H × List MemPlace), DataW.trod enc P w base spare held fuel e2 cs = some x → ∃ g : α, E.enc g = cs)
    (hv : ∃ a len cap, v = .slice a len cap) (h : DataW.Trod enc P w base spare held t v d ps) : ∃ (a : Option Addr) (hs : List Hdr) (cap : Nat) (xss : List (List α)), v = .slice a hs.length cap ∧ hs.length ≤ maxLen ∧ hs.length ≤ cap ∧ (a = none → hs = [] ∧ cap = 0) ∧ slR (hdrE T) (hp w) a hs ∧
      InpR E (hp w) hs xss ∧ ∀ xs ∈ xss, xs.length ≤ maxLen := by
  obtain ⟨a, hs, cap, h1, h2, h3, h4, h5, h6⟩ := open_gen (hdrE T) ht hC1 (by show 0 < 1; omega) (fun fuel cs x hx => trod_hdr T he hx) hv h
  have hex : ∀ i, i < hs.length → ∃ xs : List α, ∀ hd, hs[i]? = some hd → hd.n = xs.length ∧ slR E (hp w) hd.a xs ∧ (hd.a = none → hd.n = 0 ∧ hd.cap = 0) ∧ hd.n ≤ hd.cap ∧ xs.length ≤ maxLen := by
    intro i hi
    obtain ⟨fuel, y, hy⟩ := h6 hs[i] (List.getElem_mem hi)
    have hT : DataW.Trod enc P w base spare held e (.slice hs[i].a hs[i].n hs[i].cap) y.1 y.2 := ⟨fuel, hy⟩
    obtain ⟨a', xs, cap', g1, g2, g3, g4, g5, _⟩ := open_gen E he hC hm hel ⟨_, _, _, rfl⟩ hT
    refine ⟨xs, fun hd hhd => ?_⟩
    rw [List.getElem?_eq_getElem hi] at hhd
    cases hhd
    simp only [Value.slice.injEq] at g1
    obtain ⟨rfl, g6, rfl⟩ := g1
    exact ⟨g6, g5, fun e => ⟨by rw [g6, (g4 e).1]; rfl, (g4 e).2⟩, by omega, g2⟩
  obtain ⟨F, hF⟩ := choose_lt hex
  refine ⟨a, hs, cap, (List.range hs.length).map F, h1, h2, h3, h4, h5, ⟨?_, fun i hd xs e1 e2 => ?_⟩, fun xs hx => ?_⟩
  · apply List.ext_getElem?
    intro i
    rw [List.getElem?_map, List.getElem?_map, List.getElem?_map]
    by_cases hi : i < hs.length
    · rw [List.getElem?_range hi, List.getElem?_eq_getElem hi]
      exact congrArg some (hF i hi _ (List.getElem?_eq_getElem hi)).1
    · rw [List.getElem?_eq_none (by omega), List.getElem?_eq_none (by simp; omega)]; rfl
  · have hi : i < hs.length := (List.getElem?_eq_some_iff.1 e1).1
    rw [List.getElem?_map, List.getElem?_range hi] at e2
    cases e2
    have := hF i hi hd e1
    exact ⟨this.2.1, this.2.2.1, this.2.2.2.1⟩
  · obtain ⟨i, hi, rfl⟩ := List.mem_map.1 hx
    have hil := List.mem_range.1 hi
    exact (hF i hil _ (List.getElem?_eq_getElem hil)).2.2.2.2
end
end Go.KK

/- The text K35. -/
/-!
  A range over a function of one value whose next value is not known beforehand (the keys of a map).
-/
set_option linter.unusedVariables false
set_option linter.unusedSimpArgs false
namespace Go.KK
section
variable {c : Rx} {R : RP} {ds : List Deferred} {F : Fr} {L : List Asn}
theorem JR.ex {α : Type} {A : α → Asn} {x : Code} (h : ∀ y, JR c R ds F (A y :: L) x) : JR c R ds F ((fun h => ∃ y, A y h) :: L) x := fun a w hF hs he => by
  obtain ⟨y, s⟩ := hs.ex
  exact h y a w hF s he
theorem JR.prop {p : Prop} {A : Asn} {x : Code} (h : p → JR c R ds F (A :: L) x) : JR c R ds F ((fun h => p ∧ A h) :: L) x := fun a w hF hs he => by
  obtain ⟨hp, s⟩ := hs.pure
  exact h hp a w hF s he
theorem JR.star {M : List Asn} {x : Code} (h : JR c R ds F (M ++ L) x) : JR c R ds F (star M :: L) x := fun a w hF hs he => h a w hF (Sat.star.1 hs) he
theorem JR.loopW {x : Code} {ι : Type} (good : ι → Prop) (I : ι → Fr) (H : ι → List Asn) (μ : ι → Nat) (m : World → Nat) (hm : ∀ i w, Sat (hp w) (H i) → m w = μ i) (i0 : ι)
    (hF : Picks F (I i0)) (hL : ∀ h, Sat h L → Sat h (H i0)) (hg : good i0)
    (body : ∀ i, good i → JR c (fun e ds' F' L' => match e with | .normal => ds' = ds ∧ ∃ j, good j ∧ μ j < μ i ∧ Picks F' (I j) ∧ (∀ h, Sat h L' → Sat h (H j)) | e => R e ds' F' L') ds (I i) (H i) x) : JR c R ds F L (.loop x) := fun a w hok hs he =>
  wpIn_loop (fun a w => ∃ i, good i ∧ OkD c.n ds (I i) a ∧ Sat (hp w) (H i) ∧ env w = env c.w0) (fun _ w => m w) ⟨i0, hg, hok.picks hF, hL _ hs, he⟩ fun a w ⟨i, hgi, hi, hsi, hei⟩ =>
    wpIn_mono (body i hgi a w hi hsi hei) fun e a' w' ⟨ds', F', L', hr, hF', hs', he'⟩ => by
      cases e with
      | normal =>
        obtain ⟨e1, j, hj, hlt, hpk, hl⟩ := hr
        subst e1
        have hj' : OkD c.n ds' (I j) a' := OkD.picks hF' hpk
        have hs2 := hl _ hs'
        exact ⟨⟨j, hj, hj', hs2, he'⟩, by rw [hm j w' hs2, hm i w hsi]; exact hlt⟩
      | _ => exact ⟨ds', F', L', hr, hF', hs', he'⟩
end
/-- 'for x := range seq { body }' with a body that always goes on: 'H s' holds where the iterator stands at s, 'Mid s s'' where it has told v and is to come to s'. -/
theorem JR.rangeFunc1 {c : Rx} {R : RP} (hro : c.ro = none) {g : Operand} {t1 : Nat} {assign body : Code} {F : Fr} {L : List Asn} {it : Nat} {cap : Array Value}
    (hg : ev F g = some (.func (.func it) #[] cap)) (eg : ∀ args w, (callFunc it args).run c.P w = .ok (.enter it args) w) (h1 : Nat.blt t1 c.n = true)
    {ι : Type} (H : ι → List Asn) (Mid : ι → ι → List Asn) (step : ι → ι → Value → Prop) (fin : ι → Prop) (s0 : ι) (F1 : Value → Fr) (hL : ∀ h, Sat h L → Sat h (H s0))
    (hit : ∀ (l : Nat) (A B : Asn),
      (∀ s s' v, step s s' v → ∀ w, Sat (hp w) (A :: B :: Mid s s') → env w = env c.w0 → YieldAt Fence.wide 0 c.P l #[v] w (fun e w' => env w' = env c.w0 ∧ e = .returned (.bool true) ∧ Sat (hp w') (A :: B :: H s'))) →
      ∀ w, Sat (hp w) (A :: B :: H s0) → env w = env c.w0 → CallsIn Fence.wide 0 c.P it (#[.func (.yield l) #[] #[]] ++ cap) w (fun e w' => (∃ v, e = .returned v) ∧ env w' = env c.w0 ∧ ∃ s, fin s ∧ Sat (hp w') (A :: B :: H s)))
    (hassign : ∀ (l : Nat) (v : Value) (M : List Asn), JR ⟨c.P, c.n, some l, c.w0⟩ (fun e ds F' M' => e = .normal ∧ ds = [] ∧ M' = M ∧ Picks F' (F1 v)) [] ((t1, v) :: F) M assign)
    (hbody : ∀ (l : Nat) (s s' : ι) (v : Value) (A B : Asn), step s s' v → JR ⟨c.P, c.n, some l, c.w0⟩ (fun e ds F' M => e = .normal ∧ ∀ h, Sat h M → Sat h (A :: B :: H s')) [] (F1 v) (A :: B :: Mid s s') body)
    (hdone : ∀ D A s, fin s → R .normal [mark D] F (A :: blk D dfr :: H s)) :
    JR c R [] F L (.rangeFunc g #[t1] assign body) := by
  intro a w hF hs he
  rw [hro]
  refine wpIn_rangeFunc ?_
  intro fn hfn
  obtain ⟨rec, hrec⟩ : ∃ rec : LoopState → Option Code → Loop, rec = fun st pe => { state := st, pending := pe, fn, tmps := a.tmps, params := #[t1], assign, body, defers := w.heap.size } := ⟨_, rfl⟩
  obtain ⟨W1, hW1⟩ : ∃ W1, (w.alloc (.deferred (some []))).alloc (.loop (rec .ready none)) = W1 := ⟨_, rfl⟩
  have hs1 : Sat (hp W1) (blk (w.heap.size + 1) (.loop (rec .ready none)) :: blk w.heap.size dfr :: H s0) := by
    rw [← hW1, hp_alloc, World.size_alloc, hp_alloc]
    refine Sat.new ?_ (Sat.new (hp_size w) (hL _ hs))
    unfold Hp.upd
    rw [if_neg (by omega)]
    unfold hp; rw [Array.getElem?_eq_none (by omega)]
  have he1 : env W1 = env c.w0 := by rw [← hW1]; exact he
  refine ⟨w.heap.size + 1, [mark w.heap.size], W1, { target := .fn (.func it) cap, args := #[.func (.yield (w.heap.size + 1)) #[] #[]] }, W1, it,
    #[.func (.yield (w.heap.size + 1)) #[] #[]] ++ cap, W1, ?_, ?_, fun f' _ => fen_fn none f', ?_, fun h => (by cases h), ?_⟩
  · rw [← hW1, hrec]; exact run_enterLoop_outer _ _ _ _ _
  · simp only [resolve, hF.ev _ _ hg]
    simp [go_sem]
  · simp [invoke, go_sem, eg]
  generalize w.heap.size = D at *
  have hrr := fun (W : World) (M : List Asn) (o : Obj) (h : Sat (hp W) (blk (D + 1) o :: M)) => (BlkIn.head (L := M) (b := D + 1) (o := o)).out (hp W) h
  refine CallsIn.mono (hit (D + 1) (blk (D + 1) (.loop (rec .ready none))) (blk D dfr) ?_ W1 hs1 he1) ?_
  · intro s s' v hst W hsW heW
    have hl := hrr _ _ _ hsW
    have hy := run_yield (P := c.P) (args := #[v]) (w := W) hl (by rw [hrec]; rfl)
    rw [hrec] at hy
    refine ⟨fn, _, assign, body, hy, roundIn_of_wpIn trivial ?_⟩
    have hz : ((#[t1] : Array Tmp).zip #[v]).foldl (fun tmps (t, a) => tmps.setIfInBounds t a) a.tmps = a.tmps.setIfInBounds t1 v := by simp
    rw [hz]
    have hok : OkD c.n [] ((t1, v) :: F) { tmps := a.tmps.setIfInBounds t1 v, defers := [] } := OkD.put (a := { tmps := a.tmps, defers := [] }) ⟨hF.size, rfl, hF.val⟩ h1
    refine wpIn_mono (hassign (D + 1) v _ _ W hok hsW heW) ?_
    rintro e a1 w1 ⟨ds1, F1', M1, ⟨e1, e2, e3, hpk⟩, hok1, hs1', he1'⟩
    subst e1; subst e2; subst e3
    have hl1 := hrr _ _ _ hs1'
    have hbr := run_beginRound (P := c.P) (w := w1) hl1 (by rw [hrec])
    refine ⟨_, hbr, ?_⟩
    have hs2 := Sat.upd (o' := .loop { rec .ready none with state := .busy }) hs1'
    rw [← hp_putObj hl1] at hs2
    refine wpIn_mono (hbody (D + 1) s s' v _ _ hst a1 _ (hok1.picks hpk) hs2 he1') ?_
    rintro e a2 w2 ⟨ds2, F2, M2, ⟨e1, hM⟩, hok2, hs3, he3⟩
    subst e1
    have hs4 := hM _ hs3
    have hl4 := hrr _ _ _ hs4
    have fin' := run_endRound (P := c.P) none hl4
    rw [hrec] at fin'
    refine ⟨_, _, fin', he3, rfl, ?_⟩
    have hs5 := Sat.upd (o' := .loop (rec .ready none)) hs4
    rw [← hp_putObj hl4, hrec] at hs5
    rw [hrec]
    exact hs5
  · rintro e W2 ⟨⟨v, rfl⟩, heW, s, hfs, hsW⟩
    have hl := hrr _ _ _ hsW
    refine ⟨none, _, by have := run_endLoop (P := c.P) hl (by rw [hrec]; simp); rw [hrec] at this; exact this, ?_⟩
    have hs5 := Sat.upd (o' := .loop { rec .ready none with state := .exhausted }) hsW
    rw [← hp_putObj hl, hrec] at hs5
    exact ⟨_, _, _, hdone D _ s hfs, ⟨hF.size, by simp [hF.defs], hF.val⟩, hs5, heW⟩
end Go.KK
