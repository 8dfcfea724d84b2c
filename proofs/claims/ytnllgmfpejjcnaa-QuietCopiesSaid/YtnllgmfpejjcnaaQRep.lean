/-
  A part of the proof of the claim that this folder bears.
  This text: QRep.
-/
import Derived.Test.YtnllgmfpejjcnaaQFacts
import Derived.Test.YtnllgmfpejjcnaaQPlain
set_option linter.unusedVariables false
set_option linter.unusedSimpArgs false
namespace Go.Proofs.Ytnllgmfpejjcnaa
open Go Go.KK Qt

def spotE : Enc Spot := ⟨66, 3, fun s => [.bool s.active, .bool s.black, .int .i64 s.count], fun _ => rfl, fun s v h => by
  simp only [List.mem_cons, List.not_mem_nil, or_false] at h; rcases h with rfl | rfl | rfl <;> rfl⟩
def pairE : Enc (Int × Int) := ⟨69, 2, fun p => [.int .i64 p.1, .int .i64 p.2], fun _ => rfl, fun s v h => by
  simp only [List.mem_cons, List.not_mem_nil, or_false] at h; rcases h with rfl | rfl <;> rfl⟩
def boolE : Enc Bool := ⟨4, 1, fun b => [.bool b], fun _ => rfl, fun s v h => by
  simp only [List.mem_cons, List.not_mem_nil, or_false] at h; rcases h with rfl; rfl⟩
def intE : Enc Int := ⟨3, 1, fun n => [.int .i64 n], fun _ => rfl, fun s v h => by
  simp only [List.mem_cons, List.not_mem_nil, or_false] at h; rcases h with rfl; rfl⟩

def ringCells (σ : St) (a b : Option Addr) (cap cap2 : Nat) : List Value :=
  [.slice a σ.spots.length cap, .slice b σ.fly.length cap2, .int .i64 σ.pos, .int .i64 σ.sum, .bool σ.dark, .bool σ.fresh, .bool σ.told, .int .i64 σ.passes]
@[irreducible] def ringA (r : Nat) (σ : St) : Asn := fun h => ∃ a b cap cap2, Sat h [blk r (.cells (ringCells σ a b cap cap2).toArray 45 (0, 0)), sl spotE a cap σ.spots, sl pairE b cap2 σ.fly]

theorem ring_open {r : Nat} {σ : St} {c : Cx} {F : Fr} {R : List Asn} {k : List Item}
    (h : ∀ a b cap cap2, J c F (blk r (.cells #[.slice a σ.spots.length cap, .slice b σ.fly.length cap2, .int .i64 σ.pos, .int .i64 σ.sum, .bool σ.dark, .bool σ.fresh, .bool σ.told, .int .i64 σ.passes] 45 (0, 0)) :: sl spotE a cap σ.spots :: sl pairE b cap2 σ.fly :: R) k) :
    J c F (ringA r σ :: R) k := fun x w hF hs => by
  unfold ringA at hs
  obtain ⟨a, hs⟩ := Sat.ex hs
  obtain ⟨b, hs⟩ := Sat.ex hs
  obtain ⟨cap, hs⟩ := Sat.ex hs
  obtain ⟨cap2, hs⟩ := Sat.ex hs
  exact h a b cap cap2 x w hF (Sat.star.1 hs)
theorem ring_shut {r : Nat} {σ : St} {a b : Option Addr} {n m cap cap2 : Nat} {R : List Asn} {h : Hp} (hn : n = σ.spots.length) (hm : m = σ.fly.length)
    (hs : Sat h (blk r (.cells #[.slice a n cap, .slice b m cap2, .int .i64 σ.pos, .int .i64 σ.sum, .bool σ.dark, .bool σ.fresh, .bool σ.told, .int .i64 σ.passes] 45 (0, 0)) :: sl spotE a cap σ.spots :: sl pairE b cap2 σ.fly :: R)) :
    Sat h (ringA r σ :: R) := by
  subst hn; subst hm
  unfold ringA
  have := (Sat.star (M := [blk r (.cells (ringCells σ a b cap cap2).toArray 45 (0, 0)), sl spotE a cap σ.spots, sl pairE b cap2 σ.fly]) (L := R)).2 hs
  exact this.cons_imp (fun h hh => ⟨a, b, cap, cap2, hh⟩) (fun _ h => h)

class RingAt (L : List Asn) (r : Nat) (σ : outParam St) (f : outParam (Asn → List Asn)) : Prop where out : ∀ B, Rep (ringA r σ) B L (f B)
instance RingAt.head {L : List Asn} {r : Nat} {σ : St} : RingAt (ringA r σ :: L) r σ (fun B => B :: L) := ⟨fun _ => .head⟩
instance (priority := 900) RingAt.tail {A : Asn} {L : List Asn} {r : Nat} {σ : St} {f : Asn → List Asn} [h : RingAt L r σ f] : RingAt (A :: L) r σ (fun B => A :: f B) := ⟨fun B => .tail (h.out B)⟩

theorem eq2 (x y : Int × Int) (w : World) : (Op.equal 69 (.agg (pairE.enc x).toArray) (.agg (pairE.enc y).toArray)).run Try.prog w = .ok (decide (x = y)) w := by
  have hu := run_underlying (P := Try.prog) Try.underlying69 w
  have hi : (sizeOf 3).run Try.prog w = .ok 1 w := run_sizeOf_of (by kernel_rfl)
  have hs := Scl.run (P := Try.prog) (t := 3) (w := w) (by kernel_rfl)
  have he := fun a b => run_equalIn_int (P := Try.prog) w 9998 3 .i64 .i64 a b Try.underlying3
  obtain ⟨a, b⟩ := x
  obtain ⟨c, d⟩ := y
  unfold Op.equal
  rw [show Op.maxDepth = 9999 + 1 from rfl, Op.equalIn.eq_def]
  simp only [pairE, Sem.run_bind, hu, hi, Result.andThen_ok]
  simp [Std.Legacy.Range.forIn_eq_forIn_range', List.range', part, hs, he]
  by_cases h1 : a = c <;> by_cases h2 : b = d <;> simp [h1, h2]
theorem eqSpot (x y : Spot) (w : World) : (Op.equal 66 (.agg (spotE.enc x).toArray) (.agg (spotE.enc y).toArray)).run Try.prog w = .ok (decide (x = y)) w := by
  have hu := run_underlying (P := Try.prog) Try.underlying66 w
  have hs3 := Scl.run (P := Try.prog) (t := 3) (w := w) (by kernel_rfl)
  have hs4 := Scl.run (P := Try.prog) (t := 4) (w := w) (by kernel_rfl)
  have he := fun a b => run_equalIn_int (P := Try.prog) w 9998 3 .i64 .i64 a b Try.underlying3
  have hb := fun a b => run_equalIn_bool' (P := Try.prog) w 9998 4 a b Try.underlying4
  have hst : Try.prog.stoodInHeld 66 = false := by kernel_rfl
  obtain ⟨a, b, c⟩ := x
  obtain ⟨a', b', c'⟩ := y
  unfold Op.equal
  rw [show Op.maxDepth = 9999 + 1 from rfl, Op.equalIn.eq_def]
  simp only [spotE, Sem.run_bind, hu, Result.andThen_ok]
  simp [part, hs3, hs4, he, hb, hst, go_sem]
  by_cases h1 : a = a' <;> by_cases h2 : b = b' <;> by_cases h3 : c = c' <;> simp [h1, h2, h3]
instance : EqE Try.prog 69 pairE := ⟨by kernel_rfl, eq2⟩
instance : EqE Try.prog 66 spotE := ⟨by kernel_rfl, eqSpot⟩

@[irreducible] def refA (r : Nat) (σ : St) : Asn := fun h => ∃ a1 a2 a3 a4 c1 c2 c3 c4, Sat h [blk r (.cells #[.int .i64 σ.spots.length, .slice a1 σ.spots.length c1, .slice a2 σ.spots.length c2, .slice a3 σ.spots.length c3, .slice a4 σ.fly.length c4, .int .i64 σ.pos, .int .i64 σ.sum, .bool σ.dark, .bool σ.fresh, .bool σ.told, .int .i64 σ.passes] 64 (0, 0)),
  sl boolE a1 c1 (σ.spots.map (·.active)), sl boolE a2 c2 (σ.spots.map (·.black)), sl intE a3 c3 (σ.spots.map (·.count)), sl pairE a4 c4 σ.fly]

theorem ref_open {r : Nat} {σ : St} {c : Cx} {F : Fr} {R : List Asn} {k : List Item}
    (h : ∀ a1 a2 a3 a4 c1 c2 c3 c4, J c F (blk r (.cells #[.int .i64 σ.spots.length, .slice a1 σ.spots.length c1, .slice a2 σ.spots.length c2, .slice a3 σ.spots.length c3, .slice a4 σ.fly.length c4, .int .i64 σ.pos, .int .i64 σ.sum, .bool σ.dark, .bool σ.fresh, .bool σ.told, .int .i64 σ.passes] 64 (0, 0)) ::
      sl boolE a1 c1 (σ.spots.map (·.active)) :: sl boolE a2 c2 (σ.spots.map (·.black)) :: sl intE a3 c3 (σ.spots.map (·.count)) :: sl pairE a4 c4 σ.fly :: R) k) :
    J c F (refA r σ :: R) k := fun x w hF hs => by
  unfold refA at hs
  obtain ⟨a1, hs⟩ := Sat.ex hs
  obtain ⟨a2, hs⟩ := Sat.ex hs
  obtain ⟨a3, hs⟩ := Sat.ex hs
  obtain ⟨a4, hs⟩ := Sat.ex hs
  obtain ⟨c1, hs⟩ := Sat.ex hs
  obtain ⟨c2, hs⟩ := Sat.ex hs
  obtain ⟨c3, hs⟩ := Sat.ex hs
  obtain ⟨c4, hs⟩ := Sat.ex hs
  exact h a1 a2 a3 a4 c1 c2 c3 c4 x w hF (Sat.star.1 hs)
theorem ref_shut {r : Nat} {σ : St} {a1 a2 a3 a4 : Option Addr} {n m c1 c2 c3 c4 : Nat} {p : Int} {l1 l2 : List Bool} {l3 : List Int} {l4 : List (Int × Int)} {R : List Asn} {h : Hp}
    (hs : Sat h (blk r (.cells #[.int .i64 n, .slice a1 n c1, .slice a2 n c2, .slice a3 n c3, .slice a4 m c4, .int .i64 p, .int .i64 σ.sum, .bool σ.dark, .bool σ.fresh, .bool σ.told, .int .i64 σ.passes] 64 (0, 0)) ::
      sl boolE a1 c1 l1 :: sl boolE a2 c2 l2 :: sl intE a3 c3 l3 :: sl pairE a4 c4 l4 :: R))
    (hn : n = σ.spots.length) (hm : m = σ.fly.length) (hp : p = (σ.pos : Int)) (e1 : l1 = σ.spots.map (·.active)) (e2 : l2 = σ.spots.map (·.black)) (e3 : l3 = σ.spots.map (·.count)) (e4 : l4 = σ.fly) :
    Sat h (refA r σ :: R) := by
  subst hn; subst hm; subst hp; subst e1; subst e2; subst e3; subst e4
  unfold refA
  have := (Sat.star (M := [blk r (.cells #[.int .i64 σ.spots.length, .slice a1 σ.spots.length c1, .slice a2 σ.spots.length c2, .slice a3 σ.spots.length c3, .slice a4 σ.fly.length c4, .int .i64 σ.pos, .int .i64 σ.sum, .bool σ.dark, .bool σ.fresh, .bool σ.told, .int .i64 σ.passes] 64 (0, 0)),
    sl boolE a1 c1 (σ.spots.map (·.active)), sl boolE a2 c2 (σ.spots.map (·.black)), sl intE a3 c3 (σ.spots.map (·.count)), sl pairE a4 c4 σ.fly]) (L := R)).2 hs
  exact this.cons_imp (fun h hh => ⟨a1, a2, a3, a4, c1, c2, c3, c4, hh⟩) (fun _ h => h)
class RefAt (L : List Asn) (r : Nat) (σ : outParam St) (f : outParam (Asn → List Asn)) : Prop where out : ∀ B, Rep (refA r σ) B L (f B)
instance RefAt.head {L : List Asn} {r : Nat} {σ : St} : RefAt (refA r σ :: L) r σ (fun B => B :: L) := ⟨fun _ => .head⟩
instance (priority := 900) RefAt.tail {A : Asn} {L : List Asn} {r : Nat} {σ : St} {f : Asn → List Asn} [h : RefAt L r σ f] : RefAt (A :: L) r σ (fun B => A :: f B) := ⟨fun B => .tail (h.out B)⟩
end Go.Proofs.Ytnllgmfpejjcnaa
