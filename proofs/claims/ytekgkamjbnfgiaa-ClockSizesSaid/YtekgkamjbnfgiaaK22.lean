/-
  A part of the proof of the claim that this folder bears.
  This text: K22.
-/
import Derived.Test.YtekgkamjbnfgiaaK21
/-!
  Lists of assertions put in another order, or shortened, by instances.
-/
set_option linter.unusedVariables false
set_option linter.unusedSimpArgs false
namespace Go.KK
class PullC (A : Asn) (L : List Asn) (R : outParam (List Asn)) : Prop where out : L.Perm (A :: R)
instance PullC.head {A : Asn} {L : List Asn} : PullC A (A :: L) L := ⟨.refl _⟩
instance (priority := 900) PullC.tail {A B : Asn} {L R : List Asn} [h : PullC A L R] : PullC A (B :: L) (B :: R) := ⟨(h.out.cons B).trans (.swap _ _ _)⟩
class SubC (L M : List Asn) : Prop where out : ∀ h, Sat h L → Sat h M
instance (priority := 1100) SubC.refl {L : List Asn} : SubC L L := ⟨fun _ h => h⟩
instance (priority := 1050) SubC.nil {L : List Asn} : SubC L [] := ⟨fun _ _ => trivial⟩
instance SubC.cons {A : Asn} {L R M : List Asn} [h : PullC A L R] [s : SubC R M] : SubC L (A :: M) := ⟨fun k hs => (hs.perm h.out).cons_imp (fun _ h => h) (fun _ h => s.out _ h)⟩
instance (priority := 800) SubC.drop {B : Asn} {L M : List Asn} [s : SubC L M] : SubC (B :: L) M := ⟨fun k hs => s.out k hs.tail⟩

section
variable {P : Program} {f : FuncId} {args : Array Value} {L : List Asn} {Q : Value → List Asn → Prop}
theorem CallS.p1 {A : Asn} {R : List Asn} (hp : PullC A L R) (h : CallS P f args (A :: R) Q) : CallS P f args L Q := h.pre fun _ hs => hs.perm hp.out
theorem CallS.p2 {A B : Asn} {R R' : List Asn} (hp : PullC A L R) (hq : PullC B R R') (h : CallS P f args (A :: B :: R') Q) : CallS P f args L Q := h.pre fun _ hs => hs.perm (hp.out.trans (hq.out.cons _))
theorem CallS.p3 {A B D : Asn} {R R' R2 : List Asn} (hp : PullC A L R) (hq : PullC B R R') (hr : PullC D R' R2) (h : CallS P f args (A :: B :: D :: R2) Q) : CallS P f args L Q := h.pre fun _ hs => hs.perm (hp.out.trans ((hq.out.trans (hr.out.cons _)).cons _))
theorem CallS.p4 {A B D D' : Asn} {R R' R2 R3 : List Asn} (hp : PullC A L R) (hq : PullC B R R') (hr : PullC D R' R2) (hv : PullC D' R2 R3) (h : CallS P f args (A :: B :: D :: D' :: R3) Q) : CallS P f args L Q := h.pre fun _ hs => hs.perm (hp.out.trans ((hq.out.trans ((hr.out.trans (hv.out.cons _)).cons _)).cons _))
end
section rules
variable {c : Cx} {F : Fr} {L M : List Asn} {k : List Item} {ops rest : List Oper}
theorem J.sub [s : SubC L M] (h : J c F M k) : J c F L k := J.imp s.out h
theorem JO.sub [s : SubC L M] (h : JO c ops F M rest k) : JO c ops F L rest k := JO.imp s.out h
theorem J.pullC {A : Asn} {R : List Asn} (hp : PullC A L R) (h : J c F (A :: R) k) : J c F L k := J.perm hp.out h
theorem JO.pullC {A : Asn} {R : List Asn} (hp : PullC A L R) (h : JO c ops F (A :: R) rest k) : JO c ops F L rest k := JO.perm hp.out h
/-- The ways through a block meet: what is behind it is walked once. -/
theorem J.cut {ι : Type} {x : Item} (good : ι → Prop) (I : ι → Fr) (F0 : Fr) (H : ι → List Asn) (hF0 : Picks F F0) (h1 : ∀ i, good i → J c (I i ++ F0) (H i) k)
    (h2 : (∀ i, good i → J c (I i ++ F0) (H i) k) → J c F L (x :: k)) : J c F L (x :: k) := h2 h1
end rules
class SlP {α : outParam Type} (E : outParam (Enc α)) (a : Option Addr) (cap : Nat) (L : List Asn) (xs : outParam (List α)) (R : outParam (List Asn)) : Prop where out : L.Perm (sl E a cap xs :: R)
instance SlP.head {α : Type} {E : Enc α} {a : Option Addr} {cap : Nat} {L : List Asn} {xs : List α} : SlP E a cap (sl E a cap xs :: L) xs L := ⟨.refl _⟩
instance (priority := 900) SlP.tail {α : Type} {E : Enc α} {a : Option Addr} {cap : Nat} {B : Asn} {L R : List Asn} {xs : List α} [h : SlP E a cap L xs R] : SlP E a cap (B :: L) xs (B :: R) := ⟨(h.out.cons B).trans (.swap _ _ _)⟩
class RowP {α : outParam Type} (E : outParam (Enc α)) (hs : List Hdr) (L : List Asn) (xss : outParam (List (List α))) (R : outParam (List Asn)) : Prop where out : L.Perm (rows E hs xss :: R)
instance RowP.head {α : Type} {E : Enc α} {hs : List Hdr} {L : List Asn} {xss : List (List α)} : RowP E hs (rows E hs xss :: L) xss L := ⟨.refl _⟩
instance (priority := 900) RowP.tail {α : Type} {E : Enc α} {hs : List Hdr} {B : Asn} {L R : List Asn} {xss : List (List α)} [h : RowP E hs L xss R] : RowP E hs (B :: L) xss (B :: R) := ⟨(h.out.cons B).trans (.swap _ _ _)⟩
class RBP {α : outParam Type} (E : outParam (Enc α)) (i : Nat) (hs : List Hdr) (L : List Asn) (xss : outParam (List (List α))) (R : outParam (List Asn)) : Prop where out : L.Perm (rowsBut E i hs xss :: R)
instance RBP.head {α : Type} {E : Enc α} {i : Nat} {hs : List Hdr} {L : List Asn} {xss : List (List α)} : RBP E i hs (rowsBut E i hs xss :: L) xss L := ⟨.refl _⟩
instance (priority := 900) RBP.tail {α : Type} {E : Enc α} {i : Nat} {hs : List Hdr} {B : Asn} {L R : List Asn} {xss : List (List α)} [h : RBP E i hs L xss R] : RBP E i hs (B :: L) xss (B :: R) := ⟨(h.out.cons B).trans (.swap _ _ _)⟩
section
variable {α : Type} {E : Enc α}
theorem open_row {hs : List Hdr} {xss : List (List α)} {L R : List Asn} [p : RowP E hs L xss R] {h : Hp} {i : Nat} {hd : Hdr} {xs : List α} (h1 : hs[i]? = some hd) (h2 : xss[i]? = some xs) (s : Sat h L) :
    Sat h (sl E hd.a hd.cap xs :: rowsBut E i hs xss :: R) := rows_open h1 h2 (s.perm p.out)
theorem shut_row {hs : List Hdr} {xss : List (List α)} {L R R' : List Asn} {hd : Hdr} {xs : List α} {i : Nat} [p : SlP E hd.a hd.cap L xs R] [q : RBP E i hs R xss R'] {h : Hp} (h1 : hs[i]? = some hd) (hl : hd.n = xs.length) (s : Sat h L) :
    Sat h (rows E hs (xss.set i xs) :: R') := rows_back h1 hl (s.perm (p.out.trans (q.out.cons _)))
theorem rows_put {hs : List Hdr} {xss : List (List α)} {L : List Asn} {h : Hp} {i : Nat} {hd : Hdr} {xs : List α} (hi : i < hs.length) (hl : hd.n = xs.length) (s : Sat h (sl E hd.a hd.cap xs :: rows E hs xss :: L)) :
    Sat h (rows E (hs.set i hd) (xss.set i xs) :: L) := by
  obtain ⟨k1, k2, d, l1, l2, a, s2⟩ := s
  obtain ⟨e, s3⟩ := rows_iff.1 s2
  have hlen := rows_len e
  have h1 : hs[i]? = some hs[i] := List.getElem?_eq_getElem hi
  have h2 : xss[i]? = some (xss[i]'(by omega)) := List.getElem?_eq_getElem (by omega)
  have s4 := (rows_open h1 h2 s2).tail
  exact rows_shut hi hl ⟨k1, k2, d, l1, l2, a, s4⟩
theorem put_row {hs : List Hdr} {xss : List (List α)} {L R R' : List Asn} {a : Option Addr} {n cap : Nat} {xs : List α} [p : SlP E a cap L xs R] [q : RowP E hs R xss R'] {i : Nat} {h : Hp} (hi : i < hs.length) (hl : n = xs.length) (s : Sat h L) :
    Sat h (rows E (hs.set i ⟨a, n, cap⟩) (xss.set i xs) :: R') := rows_put (hd := ⟨a, n, cap⟩) hi hl (s.perm (p.out.trans (q.out.cons _)))
theorem snoc_row {hs : List Hdr} {xss : List (List α)} {L R R' : List Asn} {a : Option Addr} {n cap : Nat} {xs : List α} [p : SlP E a cap L xs R] [q : RowP E hs R xss R'] {h : Hp} (hl : n = xs.length) (s : Sat h L) :
    Sat h (rows E (hs ++ [⟨a, n, cap⟩]) (xss ++ [xs]) :: R') := rows_snoc hl (s.perm (p.out.trans (q.out.cons _)))
theorem RowsIn.n {L : List Asn} {hs : List Hdr} {xss : List (List α)} [hh : RowsIn E L hs xss] {h : Hp} (s : Sat h L) : hs.map (·.n) = xss.map (·.length) := (hh.out h s).1
theorem hdr_n {hs : List Hdr} {xss : List (List α)} (e : hs.map (·.n) = xss.map (·.length)) {i : Nat} {hd : Hdr} {xs : List α} (h1 : hs[i]? = some hd) (h2 : xss[i]? = some xs) : hd.n = xs.length := by
  have := congrArg (·[i]?) e
  simp only [List.getElem?_map, h1, h2, Option.map_some, Option.some.injEq] at this
  exact this
end
class RBIn {α : outParam Type} (E : outParam (Enc α)) (L : List Asn) (i : Nat) (hs : List Hdr) (xss : outParam (List (List α))) : Prop where out : rowsBut E i hs xss ∈ L
theorem RBIn.row {α : Type} {E : Enc α} {L : List Asn} {hs : List Hdr} {xss : List (List α)} {i j : Nat} (hh : RBIn E L i hs xss) (hij : i ≠ j) {hd : Hdr} {xs : List α} (h1 : hs[j]? = some hd) (h2 : xss[j]? = some xs) : SlIn E L hd.a xs := RowsBut.row hh.out hij h1 h2
instance RBIn.head {α : Type} {E : Enc α} {L : List Asn} {i : Nat} {hs : List Hdr} {xss : List (List α)} : RBIn E (rowsBut E i hs xss :: L) i hs xss := ⟨List.mem_cons_self⟩
instance (priority := 900) RBIn.tail {α : Type} {E : Enc α} {A : Asn} {L : List Asn} {i : Nat} {hs : List Hdr} {xss : List (List α)} [hh : RBIn E L i hs xss] : RBIn E (A :: L) i hs xss := ⟨List.mem_cons_of_mem _ hh.out⟩
end Go.KK
