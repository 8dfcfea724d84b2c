/-
  A part of the proof of the claim that this folder bears.
  This text: K15.
-/
import Derived.Test.YtekgkamjbnfgiaaK14
set_option linter.unusedVariables false
set_option linter.unusedSimpArgs false
namespace Go.KK
theorem SlIn.takeN {α : Type} {E : Enc α} {L : List Asn} {a : Option Addr} {xs : List α} (h : SlIn E L a xs) (k : Nat) : SlIn E L a (xs.take k) := ⟨fun hh hs => by
  rcases h.out hh hs with h0 | ⟨b, off, C, T, fz, ha, hb, hc⟩
  · subst h0; exact .inl (by simp)
  · refine .inr ⟨b, off, C, T, fz, ha, hb, fun j v hj => hc j v ?_⟩
    have e : E.all xs = E.all (xs.take k) ++ E.all (xs.drop k) := by rw [← E.all_append, List.take_append_drop]
    rw [e, List.getElem?_append_left (List.getElem?_eq_some_iff.1 hj).1]; exact hj⟩
theorem SlIn.dropN {α : Type} {E : Enc α} {L : List Asn} {a : Option Addr} {xs : List α} {cap m : Nat} (h : SlIn E L a xs) (hm : E.m = m) (k : Nat) (hc : cap = k → xs.length ≤ k) : SlIn E L (tailA a cap k m) (xs.drop k) := ⟨fun hh hs => by
  subst hm
  unfold tailA
  by_cases hk : cap = k
  · rw [if_pos hk, List.drop_of_length_le (hc hk)]; exact .inl rfl
  · rw [if_neg hk]
    rcases h.out hh hs with h0 | ⟨b, off, C, T, fz, ha, hb, hcc⟩
    · subst h0; exact .inl (by simp)
    · by_cases hkx : xs.length ≤ k
      · exact .inl (List.drop_of_length_le hkx)
      refine .inr ⟨b, off + k * E.m, C, T, fz, ?_, hb, fun j v hj => ?_⟩
      · subst ha; simp only [Option.map_some, Option.some.injEq]; unfold Addr.add; split <;> simp_all
      · have e : E.all xs = E.all (xs.take k) ++ E.all (xs.drop k) := by rw [← E.all_append, List.take_append_drop]
        have hl : (E.all (xs.take k)).length = k * E.m := by rw [E.all_len, List.length_take, Nat.min_eq_left (by omega)]
        have := hcc (k * E.m + j) v (by rw [e, List.getElem?_append_right (by omega), hl]; simpa using hj)
        rw [← this]; congr 1; omega⟩
theorem SlH.toIn {α : Type} {E : Enc α} {L : List Asn} {a : Option Addr} {cap : Nat} {xs : List α} {f : Asn → List Asn} [h : SlH E L a cap xs f] : SlIn E L a xs := h.slIn

theorem SlH.someA {α : Type} {E : Enc α} {L : List Asn} {a : Option Addr} {cap : Nat} {xs : List α} {f : Asn → List Asn} [hh : SlH E L a cap xs f] {h : Hp} (hs : Sat h L) (hx : 0 < xs.length) : ∃ b o, a = some ⟨b, o, none⟩ :=
  SlIn.some hh.slIn hx h hs
theorem Pur.idxP {P : Program} {F : Fr} {L : List Asn} {dst : Option Tmp} {ty : TypeId} {pos : String} {aft : Array Edge} {gd : Option (Nat × Bool)} {t e m by_ : Nat} {z : Value} [ha : SlT P t e m by_ z] {x ix : Operand} {a : Option Addr} {n cap : Nat} {kd : IntKind} {i : Int} {k : Nat} (hx : ev F x = some (.slice a n cap)) (hi : ev F ix = some (.int kd i))
    (hs : ∃ b o, a = some ⟨b, o, none⟩) (hik : i = (k : Int)) (hk : k < n) :
    Pur P F L ⟨dst, .indexAddr t x ix, ty, pos, aft, gd⟩ (.pointer (some (el a m k))) := by
  subst hik
  have := Pur.indexAddr (P := P) (F := F) (L := L) (dst := dst) (ty := ty) (pos := pos) (aft := aft) (gd := gd) (t := t) (x := x) (ix := ix) hx hi (by omega) (by omega) (fun _ _ => hs)
  simpa using this

theorem Sat.pull {A : Asn} {L R : List Asn} {h : Hp} (hp : Pull A L R) (hs : Sat h L) : Sat h (A :: R) := hs.perm hp.perm

theorem JO.effR {c : Cx} {F : Fr} {L : List Asn} {k : List Item} {ops rest : List Oper} {o : Oper} {d : Nat} {v0 : Value} (hw : wantF ops F o = some true) (hd : o.dst = some d) (hn : Nat.blt d c.n = true) (he : Eff c.P F L o (fun v M => v = v0 ∧ M = L))
    (h : JO c ops ((d, v0) :: F) L rest k) : JO c ops F L (o :: rest) k :=
  JO.eff hw hd hn he (fun v M ⟨e1, e2⟩ => by rw [e1, e2]; exact h)
end Go.KK
